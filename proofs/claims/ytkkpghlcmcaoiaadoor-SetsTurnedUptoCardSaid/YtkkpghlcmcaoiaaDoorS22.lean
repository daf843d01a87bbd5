import Derived.Test.YtkkpghlcmcaoiaaDoorTn
import Derived.Test.YtkkpghlcmcaoiaaDoorVp
namespace Go.Proofs.YtkkpghlcmcaoiaaDoor
open Go.Vc Go.Gm

theorem TdOk.extT {S : Sp} {N : Nat} {w w' : World} {T : Td} (h : TdOk S N w T) {b t : Nat} {cs : Array Value} (hE : Ext [b] w w') (hB : Blk w b t cs) (h1 : 51 ≠ t) (h2 : 3 ≠ t) (h3 : 4 ≠ t) : TdOk S N w' T :=
 ⟨h.re.ext hE (by simpa using h.re.ne_type hB h3), h.ne, h.isE, h.lf.extT hE hB h1 h2, h.isF, h.lw.extT hE hB h1 h2, h.isW, h.ly.extT hE hB h1 h2, h.isY, h.afw, h.afy, h.awy⟩
theorem sameTold_T {S S' : Sp} {N N' : Nat} {w : World} {T T' : Td} (hG : ∀ x, x ∈ S.g ↔ x ∈ S'.g) (hn : S.ns.length = S'.ns.length) (hl : S.nl = S'.nl) (hs : S.st = S'.st) (h : TdOk S N w T) (h' : TdOk S' N' w T') (hnm : S.ns.length ≤ 1048576) :
  Calls Tryd.prog 32 #[.agg (T.cells S), .agg (T'.cells S')] w fun e w' => e = .returned (.bool true) ∧ Ext [] w w' := by
 obtain ⟨e1, e2, e3, e4, e5, e6⟩ := h.same hG hn hl hs h'
 obtain ⟨m1, m2, m3⟩ := h.max
 have hyn := h.ly.len
 have hy : T.yn ≤ 1048576 := by
  obtain ⟨k, x, ⟨vs, hv, h1 | h1⟩, _⟩ := h.isY
  ·have := h1.2.2.2.2.1; omega
  ·have := h1.2.2.2.1; omega
 have r2 := h'.re.v.rd
 have f2 := h'.lf.rdl (by rw [← e2]; exact m1)
 have w2 := h'.lw.rdl (by rw [← e3]; exact m2)
 have y2 := h'.ly.rdl (by rw [← e4]; exact m3)
 rw [← e1, ← hn] at r2
 rw [← e2, ← hn] at f2
 rw [← e3, ← hn] at w2
 rw [← e4, ← e5] at y2
 have := sameTold_eq T.full h.re.v.rd r2 (h.lf.rdl m1) f2 (h.lw.rdl m2) w2 (h.ly.rdl m3) y2 hnm hy
 unfold Td.cells
 rw [← e6, ← e5, ← hn]
 exact this

theorem told_S2 {w0 w : World} {S : Sp} {bs : Option Addr} {m cq : Nat} {qs : List Pd} (hG : SpOk w0 (S.with bs cq qs)) (hb : Ext [] w0 w) (hT : Tab w0) (hok : GOk (S.with bs cq qs)) (hm : qs.length = m) : Calls Tryd.prog 27 #[.agg #[S.lv, S.nv, I6 S.st, .slice bs m cq]] w fun e w' => ∃ T : Td, e = .returned (.tuple #[.agg (T.cells S), .bool true, .bool true]) ∧ TdOk (S.with bs cq qs) w.heap.size w' T ∧ Ext [] w w' := by
 subst hm
 exact told_ok hG hb hT hok

set_option maxHeartbeats 1000000 in
theorem SetsTurned_any {w : World} {S : Sp} (hG : SpOk w S) (hT : Tab w) (turn : Int) {vt : Value} {mt : Nat} {ts : List Int} (ht : RdV w 1 vt mt (its ts)) (hmt : mt ≤ 1048576) :
  Calls Tryd.prog 6 #[.agg #[S.lv, S.nv, I6 S.st, S.pv], I6 turn, vt] w fun e w' => e = .returned (.bool true) ∧ Ext [] w w' := by
 have hlmax := hG.lmax
 have hnmax := hG.nmax
 have hpmax := hG.pmax
 have hb : Ext [] w w := Ext.refl _ _
 have htl : ts.length = mt := by have := ht.len; simpa [its] using this
 refine calls_body 119 [(0, .agg #[S.lv, S.nv, I6 S.st, S.pv]), (1, I6 turn), (2, vt)] Tryd.func6 rfl (by kernel_rfl) (by kernel_rfl) (by kernel_rfl) fun a hS => ?_
 have hE0 : Ext [] w w := Ext.refl _ _
 refine sq fun K1 hK1 => ?_
 refine rgn 2 ?_
 refine eff_box wide_wide (r := 1) (cs := #[S.lv, S.nv, I6 S.st, S.pv]) (T := 26) (d := (some 3)) hS (by kernel_rfl) fun a w2 hw3 hS => ?_
 have hB4 : Blk w2 (w.heap.size) 26 #[S.lv, S.nv, I6 S.st, S.pv] := by rw [hw3]; exact Blk.new _ _ _
 have hs5 : w.heap.size ≤ w.heap.size := hE0.size
 have hE6 : Ext [] w w2 := by rw [hw3]; exact hE0.alloc _
 refine sg wide_wide [.p] [] [(0, .agg #[S.lv, S.nv, I6 S.st, S.pv]), (1, I6 turn), (2, vt), (3, (Pv w.heap.size)), (6, .bool false)] 2 0 hS .nil fun a hS => ?_
 refine seg_end ?_
 refine hK1 _ _ ?_
 refine sq fun K7 hK7 => ?_
 refine rgn 10 ?_
 refine sg wide_wide [.lds [S.lv, S.nv, I6 S.st, S.pv]] [w2.cell? ⟨w.heap.size, 0, none⟩ = some (S.lv), w2.cell? ⟨w.heap.size, 1, none⟩ = some (S.nv), w2.cell? ⟨w.heap.size, 2, none⟩ = some (I6 S.st), w2.cell? ⟨w.heap.size, 3, none⟩ = some (S.pv)] [(0, .agg #[S.lv, S.nv, I6 S.st, S.pv]), (1, I6 turn), (2, vt), (3, (Pv w.heap.size)), (6, .bool false), (20, .agg #[S.lv, S.nv, I6 S.st, S.pv])] 1 9 hS (.cons (hB4.cell 0 rfl) (.cons (hB4.cell 1 rfl) (.cons (hB4.cell 2 rfl) (.cons (hB4.cell 3 rfl) .nil)))) fun a hS => ?_
 refine eff_call wide_wide (r := 8) (f := 27) (vs := [.agg #[S.lv, S.nv, I6 S.st, S.pv]]) (cap := #[]) (d := (some 21)) hS (by kernel_rfl) Tryd.call27 #[.agg #[S.lv, S.nv, I6 S.st, S.pv]] (by kernel_rfl) (told_any hG (hb.trans0 hE6) hT) ?_
 rintro _ wtT ⟨z, hZT, ⟨hzT, rfl⟩ | ⟨hzT, T, rfl, hTT⟩, hEtT⟩
 ·
  refine ⟨_, rfl, fun a hS => ?_⟩
  have hB8 := hB4.ext hEtT (by simp)
  have hE9 := hE6.trans0 hEtT
  refine sg wide_wide [.p, .p, .p, .p] [] [(0, .agg #[S.lv, S.nv, I6 S.st, S.pv]), (1, I6 turn), (2, vt), (3, (Pv w.heap.size)), (6, .bool false), (22, .agg #[.slice none 0 0, .slice none 0 0, .slice none 0 0, .slice none 0 0, .bool false]), (23, .bool false), (24, .bool true)] 6 4 hS .nil fun a hS => ?_
  refine eff_box wide_wide (r := 3) (cs := #[.slice none 0 0, .slice none 0 0, .slice none 0 0, .slice none 0 0, .bool false]) (T := 53) (d := (some 7)) hS (by kernel_rfl) fun a w10 hw11 hS => ?_
  have hn12 : w.heap.size ≠ wtT.heap.size := Nat.ne_of_lt hB8.lt
  have hB13 := Blk.at' hw11 (hB8.alloc _)
  have hB14 : Blk w10 (wtT.heap.size) 53 #[.slice none 0 0, .slice none 0 0, .slice none 0 0, .slice none 0 0, .bool false] := by rw [hw11]; exact Blk.new _ _ _
  have hs15 : w.heap.size ≤ wtT.heap.size := hE9.size
  have hE16 : Ext [] w w10 := by rw [hw11]; exact hE9.alloc _
  refine eff_store wide_wide (r := 2) (b := wtT.heap.size) (off := 0) (vs := [.slice none 0 0, .slice none 0 0, .slice none 0 0, .slice none 0 0, .bool false]) hS (by kernel_rfl) hB14 (by simp) fun a w17 hw18 hS => ?_
  have hB19 := Blk.at' hw18 (hB13.updNe (Ne.symm hn12) _ _)
  have hE21 : Ext [] w w17 := by rw [hw18]; exact hE16.updIn (.inr hs15) _ _
  refine sg wide_wide [.p, .p] [] [(0, .agg #[S.lv, S.nv, I6 S.st, S.pv]), (1, I6 turn), (2, vt), (3, (Pv w.heap.size)), (6, .bool false), (7, (Pv wtT.heap.size)), (8, .bool false), (9, .bool true)] 10 0 hS .nil fun a hS => ?_
  refine seg_end ?_
  refine hK7 _ _ ?_
  refine sq fun K22 hK22 => ?_
  refine rgn 4 ?_
  refine sg wide_wide [.p, .ld (S.pv), .run (I6 ↑S.ps.length), .p] [w17.cell? ⟨w.heap.size, 3, none⟩ = some (S.pv), Ru Tryd.prog (vS (Builtin.len_ #[24] 3 #[S.pv])) (I6 ↑S.ps.length) w17] [(0, .agg #[S.lv, S.nv, I6 S.st, S.pv]), (1, I6 turn), (2, vt), (3, (Pv w.heap.size)), (6, .bool false), (7, (Pv wtT.heap.size)), (8, .bool false), (9, .bool true), (10, I6 ↑S.ps.length)] 4 0 hS (.cons (hB19.cell 3 rfl) (.cons (run_len_rd (e := 73) hG.prods (by kernel_rfl)) .nil)) fun a hS => ?_
  refine seg_end ?_
  refine hK22 _ _ ?_
  refine sq fun K23 hK23 => ?_
  refine sq fun K24 hK24 => ?_
  refine rgn 6 ?_
  refine sg wide_wide [.p, .p, .p, .no, .no, .p] [] [(0, .agg #[S.lv, S.nv, I6 S.st, S.pv]), (1, I6 turn), (2, vt), (3, (Pv w.heap.size)), (6, .bool false), (7, (Pv wtT.heap.size)), (8, .bool false), (9, .bool true), (10, I6 ↑S.ps.length), (33, .bool true)] 6 0 hS .nil fun a hS => ?_
  refine seg_end ?_
  refine hK24 _ _ ?_
  refine cond_t hS rfl ?_
  refine sq fun K25 hK25 => ?_
  refine rgn 5 ?_
  refine sg wide_wide [.p, .p] [] [(0, .agg #[S.lv, S.nv, I6 S.st, S.pv]), (1, I6 turn), (2, vt), (3, (Pv w.heap.size)), (6, .bool false), (7, (Pv wtT.heap.size)), (8, .bool false), (9, .bool true), (10, I6 ↑S.ps.length), (33, .bool true), (35, .bool true)] 2 3 hS .nil fun a hS => ?_
  refine eff_call wide_wide (r := 2) (f := 12) (vs := []) (cap := #[]) (d := (some 36)) hS (by kernel_rfl) Tryd.call12 #[] (by kernel_rfl) (Head_any (hT.ext0 (hb.trans0 hE21))) ?_
  rintro _ wc26 ⟨rfl, hEc26⟩
  refine ⟨_, rfl, fun a hS => ?_⟩
  have hE29 := hE21.trans0 hEc26
  refine sg wide_wide [.p, .p] [] [(0, .agg #[S.lv, S.nv, I6 S.st, S.pv]), (1, I6 turn), (2, vt), (3, (Pv w.heap.size)), (6, .bool true), (7, (Pv wtT.heap.size)), (8, .bool false), (9, .bool true), (10, I6 ↑S.ps.length), (33, .bool true)] 5 0 hS .nil fun a hS => ?_
  refine seg_end ?_
  refine hK25 _ _ ?_
  refine wpIn_ret ?_
  refine then_ret ?_
  refine ret1 hS Tryd.results6 rfl ?_
  exact ⟨rfl, hE29⟩
 ·
  refine ⟨_, rfl, fun a hS => ?_⟩
  have hB30 := hB4.ext hEtT (by simp)
  have hE31 := hE6.trans0 hEtT
  have hok := hZT.zero.2.1 hzT
  have hTT0 := hTT
  refine sg wide_wide [.p, .p, .p, .p] [] [(0, .agg #[S.lv, S.nv, I6 S.st, S.pv]), (1, I6 turn), (2, vt), (3, (Pv w.heap.size)), (6, .bool false), (22, .agg #[.slice (some ⟨T.eg, 0, none⟩) S.ns.length S.ns.length, .slice T.fb S.ns.length T.fc, .slice T.wb S.ns.length T.wc, .slice T.yb T.yn T.yc, .bool T.full]), (23, .bool true), (24, .bool true)] 6 4 hS .nil fun a hS => ?_
  refine eff_box wide_wide (r := 3) (cs := #[.slice none 0 0, .slice none 0 0, .slice none 0 0, .slice none 0 0, .bool false]) (T := 53) (d := (some 7)) hS (by kernel_rfl) fun a w32 hw33 hS => ?_
  have hn34 : w.heap.size ≠ wtT.heap.size := Nat.ne_of_lt hB30.lt
  have hB35 := Blk.at' hw33 (hB30.alloc _)
  have hX36 : Ext [] wtT w32 := by rw [hw33]; exact (Ext.refl _ _).alloc _
  have hG37 : TdOk S w2.heap.size w32 T := hTT.ext0 hX36
  have hB38 : Blk w32 (wtT.heap.size) 53 #[.slice none 0 0, .slice none 0 0, .slice none 0 0, .slice none 0 0, .bool false] := by rw [hw33]; exact Blk.new _ _ _
  have hs39 : w.heap.size ≤ wtT.heap.size := hE31.size
  have hE40 : Ext [] w w32 := by rw [hw33]; exact hE31.alloc _
  refine eff_store wide_wide (r := 2) (b := wtT.heap.size) (off := 0) (vs := [.slice (some ⟨T.eg, 0, none⟩) S.ns.length S.ns.length, .slice T.fb S.ns.length T.fc, .slice T.wb S.ns.length T.wc, .slice T.yb T.yn T.yc, .bool T.full]) hS (by kernel_rfl) hB38 (by simp) fun a w41 hw42 hS => ?_
  have hB43 := Blk.at' hw42 (hB35.updNe (Ne.symm hn34) _ _)
  have hB44 : Blk w41 wtT.heap.size 53 (#[.slice (some ⟨T.eg, 0, none⟩) S.ns.length S.ns.length, .slice T.fb S.ns.length T.fc, .slice T.wb S.ns.length T.wc, .slice T.yb T.yn T.yc, .bool T.full]) := by rw [hw42]; exact hB38.upd _ _
  have hX45 : Ext [wtT.heap.size] w32 w41 := by rw [hw42]; exact (Ext.refl _ _).updIn (.inl (by simp)) _ _
  have hG46 : TdOk S w2.heap.size w41 T := hG37.extT hX45 hB38 (by decide) (by decide) (by decide)
  have hE47 : Ext [] w w41 := by rw [hw42]; exact hE40.updIn (.inr hs39) _ _
  refine sg wide_wide [.p, .p] [] [(0, .agg #[S.lv, S.nv, I6 S.st, S.pv]), (1, I6 turn), (2, vt), (3, (Pv w.heap.size)), (6, .bool false), (7, (Pv wtT.heap.size)), (8, .bool true), (9, .bool true)] 10 0 hS .nil fun a hS => ?_
  refine seg_end ?_
  refine hK7 _ _ ?_
  refine sq fun K48 hK48 => ?_
  refine rgn 4 ?_
  refine sg wide_wide [.p, .ld (S.pv), .run (I6 ↑S.ps.length), .p] [w41.cell? ⟨w.heap.size, 3, none⟩ = some (S.pv), Ru Tryd.prog (vS (Builtin.len_ #[24] 3 #[S.pv])) (I6 ↑S.ps.length) w41] [(0, .agg #[S.lv, S.nv, I6 S.st, S.pv]), (1, I6 turn), (2, vt), (3, (Pv w.heap.size)), (6, .bool false), (7, (Pv wtT.heap.size)), (8, .bool true), (9, .bool true), (10, I6 ↑S.ps.length)] 4 0 hS (.cons (hB43.cell 3 rfl) (.cons (run_len_rd (e := 73) hG.prods (by kernel_rfl)) .nil)) fun a hS => ?_
  refine seg_end ?_
  refine hK48 _ _ ?_
  refine sq fun K49 hK49 => ?_
  refine sq fun K50 hK50 => ?_
  rcases (show (S.ps.length = 0) ∨ (0 < S.ps.length) from by omega) with hn0 | hn0
  ·
   refine rgn 6 ?_
   refine sg wide_wide [.p, .p, .p, .p, .as (.bool true), .p] [Value.bool (((↑S.ps.length : Int) == 0)) = .bool true] [(0, .agg #[S.lv, S.nv, I6 S.st, S.pv]), (1, I6 turn), (2, vt), (3, (Pv w.heap.size)), (6, .bool false), (7, (Pv wtT.heap.size)), (8, .bool true), (9, .bool true), (10, I6 ↑S.ps.length), (33, .bool true)] 6 0 hS (.cons (as_eq_t (by omega)) .nil) fun a hS => ?_
   refine seg_end ?_
   refine hK50 _ _ ?_
   refine cond_t hS rfl ?_
   refine sq fun K51 hK51 => ?_
   refine rgn 5 ?_
   refine sg wide_wide [.p, .p] [] [(0, .agg #[S.lv, S.nv, I6 S.st, S.pv]), (1, I6 turn), (2, vt), (3, (Pv w.heap.size)), (6, .bool false), (7, (Pv wtT.heap.size)), (8, .bool true), (9, .bool true), (10, I6 ↑S.ps.length), (33, .bool true), (35, .bool true)] 2 3 hS .nil fun a hS => ?_
   refine eff_call wide_wide (r := 2) (f := 12) (vs := []) (cap := #[]) (d := (some 36)) hS (by kernel_rfl) Tryd.call12 #[] (by kernel_rfl) (Head_any (hT.ext0 (hb.trans0 hE47))) ?_
   rintro _ wc52 ⟨rfl, hEc52⟩
   refine ⟨_, rfl, fun a hS => ?_⟩
   have hG55 : TdOk S w2.heap.size wc52 T := hG46.ext0 hEc52
   have hE56 := hE47.trans0 hEc52
   refine sg wide_wide [.p, .p] [] [(0, .agg #[S.lv, S.nv, I6 S.st, S.pv]), (1, I6 turn), (2, vt), (3, (Pv w.heap.size)), (6, .bool true), (7, (Pv wtT.heap.size)), (8, .bool true), (9, .bool true), (10, I6 ↑S.ps.length), (33, .bool true)] 5 0 hS .nil fun a hS => ?_
   refine seg_end ?_
   refine hK51 _ _ ?_
   refine wpIn_ret ?_
   refine then_ret ?_
   refine ret1 hS Tryd.results6 rfl ?_
   exact ⟨rfl, hE56⟩
  ·
   refine rgn 6 ?_
   refine sg wide_wide [.p, .p, .p, .p, .as (.bool false), .p] [Value.bool (((↑S.ps.length : Int) == 0)) = .bool false] [(0, .agg #[S.lv, S.nv, I6 S.st, S.pv]), (1, I6 turn), (2, vt), (3, (Pv w.heap.size)), (6, .bool false), (7, (Pv wtT.heap.size)), (8, .bool true), (9, .bool true), (10, I6 ↑S.ps.length), (33, .bool false)] 6 0 hS (.cons (as_eq_f (by omega)) .nil) fun a hS => ?_
   refine seg_end ?_
   refine hK50 _ _ ?_
   refine cond_f hS rfl ?_
   refine wpIn_skip ?_
   refine hK49 _ _ ?_
   refine sq fun K57 hK57 => ?_
   have hlng : S.ps.length ≤ 512 := by have := hok.lng; unfold Lng at this; omega
   obtain ⟨r, hr⟩ : ∃ r : Int, r = turn.tmod S.ps.length := ⟨_, rfl⟩
   have hrb := tmod_bd turn (n := S.ps.length) (by omega)
   rw [← hr] at hrb
   have hbr58 : Ext [] w w41 := (hb.trans0 hE47)
   have hEr58 : Ext [] w41 w41 := Ext.refl _ _
   refine rgn 3 ?_
   refine sg wide_wide [.lds [S.lv, S.nv, I6 S.st, S.pv]] [w41.cell? ⟨w.heap.size, 0, none⟩ = some (S.lv), w41.cell? ⟨w.heap.size, 1, none⟩ = some (S.nv), w41.cell? ⟨w.heap.size, 2, none⟩ = some (I6 S.st), w41.cell? ⟨w.heap.size, 3, none⟩ = some (S.pv)] [(0, .agg #[S.lv, S.nv, I6 S.st, S.pv]), (1, I6 turn), (2, vt), (3, (Pv w.heap.size)), (6, .bool false), (7, (Pv wtT.heap.size)), (8, .bool true), (9, .bool true), (10, I6 ↑S.ps.length), (33, .bool false), (38, .agg #[S.lv, S.nv, I6 S.st, S.pv])] 1 2 hS (.cons (hB43.cell 0 rfl) (.cons (hB43.cell 1 rfl) (.cons (hB43.cell 2 rfl) (.cons (hB43.cell 3 rfl) .nil)))) fun a hS => ?_
   refine eff_box wide_wide (r := 1) (cs := #[.slice none 0 0, .slice none 0 0, I6 0, .slice none 0 0]) (T := 26) (d := (some 11)) hS (by kernel_rfl) fun a w59 hw60 hS => ?_
   have hB65 : Blk w59 (w41.heap.size) 26 #[.slice none 0 0, .slice none 0 0, I6 0, .slice none 0 0] := by rw [hw60]; exact Blk.new _ _ _
   have hs66 : w41.heap.size ≤ w41.heap.size := hEr58.size
   have hE67 : Ext [] w41 w59 := by rw [hw60]; exact hEr58.alloc _
   refine eff_store wide_wide (r := 0) (b := w41.heap.size) (off := 0) (vs := [S.lv, S.nv, I6 S.st, S.pv]) hS (by kernel_rfl) hB65 (by simp) fun a w68 hw69 hS => ?_
   have hB72 : Blk w68 w41.heap.size 26 (#[S.lv, S.nv, I6 S.st, S.pv]) := by rw [hw69]; exact hB65.upd _ _
   have hE73 : Ext [] w41 w68 := by rw [hw69]; exact hE67.updIn (.inr hs66) _ _
   refine seg_end ?_
   refine hK57 _ _ ?_
   refine sq fun K74 hK74 => ?_
   refine rgn 2 ?_
   refine sg wide_wide [.p] [] [(0, .agg #[S.lv, S.nv, I6 S.st, S.pv]), (1, I6 turn), (2, vt), (3, (Pv w.heap.size)), (6, .bool false), (7, (Pv wtT.heap.size)), (8, .bool true), (9, .bool true), (10, I6 ↑S.ps.length), (33, .bool false), (11, (Pv w41.heap.size)), (39, (Po w41.heap.size 3))] 1 1 hS .nil fun a hS => ?_
   refine eff_store wide_wide (r := 0) (b := w41.heap.size) (off := 3) (vs := [.slice none 0 0]) hS (by kernel_rfl) hB72 (by simp) fun a w75 hw76 hS => ?_
   have hB79 : Blk w75 w41.heap.size 26 (#[S.lv, S.nv, I6 S.st, .slice none 0 0]) := by rw [hw76]; exact hB72.upd _ _
   have hE80 : Ext [] w41 w75 := by rw [hw76]; exact hE73.updIn (.inr hs66) _ _
   refine seg_end ?_
   refine hK74 _ _ ?_
   refine sq fun K81 hK81 => ?_
   have hkk : (∃ k : Nat, r = k ∧ k < S.ps.length) ∨ (∃ k : Nat, r + S.ps.length = k ∧ k < S.ps.length ∧ r < 0) := by
    rcases Int.lt_or_le r 0 with h | h
    ·exact .inr ⟨(r + S.ps.length).toNat, by omega, by omega, h⟩
    ·exact .inl ⟨r.toNat, by omega, by omega⟩
   rcases (show (∃ k : Nat, r = k ∧ k < S.ps.length) ∨ (∃ k : Nat, r + S.ps.length = k ∧ k < S.ps.length ∧ r < 0) from hkk) with ⟨k, hk, hkl⟩ | ⟨k, hk, hkl, hr0⟩
   ·
    refine rgn 4 ?_
    refine sg wide_wide [.p, .p, .run (I6 ↑k), .p] [Ru Tryd.prog (vS (do eqGuard .rem 3 (.tmp 40) (.tmp 41) (I6 turn) (I6 ↑S.ps.length); binOp .rem 3 (I6 turn) (I6 ↑S.ps.length))) (I6 ↑k) w75] [(0, .agg #[S.lv, S.nv, I6 S.st, S.pv]), (1, I6 turn), (2, vt), (3, (Pv w.heap.size)), (6, .bool false), (7, (Pv wtT.heap.size)), (8, .bool true), (9, .bool true), (10, I6 ↑S.ps.length), (33, .bool false), (11, (Pv w41.heap.size)), (12, I6 ↑k)] 4 0 hS (.cons ((by have h := bin_rem (P := Tryd.prog) (w := w75) (T := 3) (a := .tmp 40) (b := .tmp 41) (x := turn) (y := (S.ps.length : Int)) (by omega); rw [← hr, hk] at h; exact h)) .nil) fun a hS => ?_
    refine seg_end ?_
    refine hK81 _ _ ?_
    refine sq fun K82 hK82 => ?_
    refine sq fun K83 hK83 => ?_
    refine rgn 2 ?_
    refine sg wide_wide [.p, .as (.bool false)] [Value.bool (decide ((↑k : Int) < 0)) = .bool false] [(0, .agg #[S.lv, S.nv, I6 S.st, S.pv]), (1, I6 turn), (2, vt), (3, (Pv w.heap.size)), (6, .bool false), (7, (Pv wtT.heap.size)), (8, .bool true), (9, .bool true), (10, I6 ↑S.ps.length), (33, .bool false), (11, (Pv w41.heap.size)), (12, I6 ↑k), (44, .bool false)] 2 0 hS (.cons (as_f (by omega)) .nil) fun a hS => ?_
    refine seg_end ?_
    refine hK83 _ _ ?_
    refine cond_f hS rfl ?_
    refine wpIn_skip ?_
    refine hK82 _ _ ?_
    refine sq fun K84 hK84 => ?_
    refine sq fun K85 hK85 => ?_
    refine rgn 3 ?_
    refine sg wide_wide [.p, .as (I6 (↑S.ps.length - 1)), .p] [Value.int .i64 (IntKind.i64.wrap (↑S.ps.length - 1)) = I6 (↑S.ps.length - 1)] [(0, .agg #[S.lv, S.nv, I6 S.st, S.pv]), (1, I6 turn), (2, vt), (3, (Pv w.heap.size)), (6, .bool false), (7, (Pv wtT.heap.size)), (8, .bool true), (9, .bool true), (10, I6 ↑S.ps.length), (33, .bool false), (11, (Pv w41.heap.size)), (12, I6 ↑k), (44, .bool false), (13, I6 (↑S.ps.length - 1))] 3 0 hS (.cons (as_i64 (by omega)) .nil) fun a hS => ?_
    refine seg_end ?_
    refine hK85 _ _ ?_
    refine wpIn_block ?_
    have hn11 : w41.heap.size ≤ w41.heap.size := hs66
    refine loop_ghost (fun ((i, bs, m, cq, qs) : Nat × (Option Addr) × Nat × Nat × (List Pd)) a' w' => St 119 [] [(2, vt), (3, (Pv w.heap.size)), (7, (Pv wtT.heap.size)), (10, I6 ↑S.ps.length), (11, (Pv w41.heap.size)), (12, I6 ↑k), (13, I6 (↑i - 1))] a' ∧ Ext [] w41 w' ∧ i ≤ S.ps.length ∧ m + i = S.ps.length ∧ RowP w41.heap.size w' bs m cq qs ∧ Blk w' (w41.heap.size) 26 #[S.lv, S.nv, I6 S.st, .slice bs m cq] ∧ (∀ q ∈ qs, q ∈ S.ps) ∧ (∀ t, i ≤ t → t < S.ps.length → ∀ q, S.ps[(t + k) % S.ps.length]? = some q → q ∈ qs)) (fun ((i, bs, m, cq, qs) : Nat × (Option Addr) × Nat × Nat × (List Pd)) => i) (S.ps.length, none, 0, 0, []) ⟨hS.keepTo [2, 3, 7, 10, 11, 12, 13] (by kernel_rfl), hE80, Nat.le_refl _, by omega, ⟨OwnV.nil _ _ _, fun x hx => by simp [ob] at hx⟩, hB79, fun q hq => by simp at hq, fun t h1 h2 => by omega⟩ ?_
    rintro ⟨i, bs, m, cq, qs⟩ a wl86 ⟨hS, hXl86, hi, hmi, hR, hb11, hq1, hq2⟩
    refine sq fun K87 hK87 => ?_
    refine sq fun K88 hK88 => ?_
    refine rgn 2 ?_
    refine sg wide_wide [.p, .p] [] [(2, vt), (3, (Pv w.heap.size)), (7, (Pv wtT.heap.size)), (10, I6 ↑S.ps.length), (11, (Pv w41.heap.size)), (12, I6 ↑k), (13, I6 (↑i - 1)), (51, .bool (decide (((↑i - 1) : Int) ≥ 0)))] 2 0 hS .nil fun a hS => ?_
    refine seg_end ?_
    refine hK88 _ _ ?_
    refine cond_b hS rfl (fun hb89 => ?_) (fun hb89 => ?_)
    ·
     replace hb89 := of_decide_eq_true hb89
     obtain ⟨p, hpi⟩ : ∃ p, S.ps[(i - 1 + k) % S.ps.length]? = some p := ⟨_, List.getElem?_eq_getElem (Nat.mod_lt _ hn0)⟩
     have hpm := List.mem_of_getElem? hpi
     have hrm := hG.rmax p hpm
     have hql := hR.len
     have hml := Nat.mod_lt (i - 1 + k) hn0
     refine wpIn_skip ?_
     refine hK87 _ _ ?_
     refine sq fun K90 hK90 => ?_
     refine wpIn_block ?_
     obtain ⟨ga91, ca91, wa91, hra91, hOa91, hEa91, hFa91⟩ := append_any (P := Tryd.prog) (w := (wl86.drew).alloc (.cells #[I6 p.l, p.rv] 73)) (t := 24) (ty := 24) (e := 73) (size := 2) (bytes := 32) (n := m) (b := wl86.heap.size) (off := 0) (k := 1) (c := 1) (z := #[I6 0, .slice none 0 0]) (v := Value.slice bs m cq) (xs := (pcells qs)) (news := [I6 p.l, p.rv]) (by kernel_rfl) (by kernel_rfl) rfl (by decide) ((hR.own.drew).alloc _ : OwnV ((wl86.drew).alloc (.cells #[I6 p.l, p.rv] 73)) 73 2 (.slice bs m cq) m (pcells qs)) (by simp) (fun j u hu => by rw [Nat.zero_add]; exact (Blk.new' _ _ _ (by first | rfl | simp [upd_size]) : Blk ((wl86.drew).alloc (.cells #[I6 p.l, p.rv] 73)) wl86.heap.size 73 (#[I6 p.l, p.rv])).cell j (by simpa using hu)) rfl (by omega) (by simp only [maxLen]; omega) (by omega)
     refine region_fn2 wide_wide [.q .p, .q (.ld (.slice bs m cq)), .q .p, .q (.ld (S.pv)), .q .p, .q .p, .q (.as (I6 ((i - 1 + k : Nat) : Int))), .q .p, .q (.run (I6 (((i - 1 + k) % S.ps.length : Nat) : Int))), .q (.run ((Po (bof S.pv) (oof S.pv + ((i - 1 + k) % S.ps.length) * 2)))), .q (.lds [I6 p.l, p.rv]), .e, .e, .q .p, .e] [0, 0, 0, 0, 0, 0, 0, 0, 0, 0, 0, 0, 1, 2, 2] [1, 1, 0, 0, 0, 0, 0, 0, 0, 0, 0, 0, 1, 2, 2] [0, 1, 0, 4, 0, 0, 48, 0, 240, 508, 1020, 2044, 4095, 8191, 16383] [11, 12, 14] 3 ([(2, vt), (3, (Pv w.heap.size)), (7, (Pv wtT.heap.size)), (10, I6 ↑S.ps.length), (11, (Pv w41.heap.size)), (12, I6 ↑k), (13, I6 (↑i - 1)), (51, .bool (decide (((↑i - 1) : Int) ≥ 0))), (54, (Po w41.heap.size 3)), (55, .slice bs m cq), (56, (Po w.heap.size 3)), (57, S.pv), (58, I6 (↑i - 1)), (59, I6 ↑k), (60, I6 ((i - 1 + k : Nat) : Int)), (61, I6 ↑S.ps.length), (62, I6 (((i - 1 + k) % S.ps.length : Nat) : Int)), (63, (Po (bof S.pv) (oof S.pv + ((i - 1 + k) % S.ps.length) * 2))), (64, .agg #[I6 p.l, p.rv]), (65, .slice (some ⟨wl86.heap.size, 0, none⟩) 1 1), (66, .slice (some ⟨ga91, 0, none⟩) (m + 1) ca91), (67, (Po w41.heap.size 3))]) [wl86.drew, (wl86.drew).alloc (.cells #[I6 p.l, p.rv] 73), wa91, upd (wa91) (w41.heap.size) 26 #[S.lv, S.nv, I6 S.st, .slice (some ⟨ga91, 0, none⟩) (m + 1) ca91]] wl86.drew (fun w' => [(1, [w'.cell? ⟨w41.heap.size, 3, none⟩ = some (.slice bs m cq)]), (3, [w'.cell? ⟨w.heap.size, 3, none⟩ = some (S.pv)]), (6, [Value.int .i64 (IntKind.i64.wrap ((↑i - 1) + ↑k)) = I6 ((i - 1 + k : Nat) : Int)]), (8, [Ru Tryd.prog (vS (do eqGuard .rem 3 (.tmp 60) (.tmp 61) (I6 ((i - 1 + k : Nat) : Int)) (I6 ↑S.ps.length); binOp .rem 3 (I6 ((i - 1 + k : Nat) : Int)) (I6 ↑S.ps.length))) (I6 (((i - 1 + k) % S.ps.length : Nat) : Int)) w']), (9, [Ru Tryd.prog (vS (Instr.indexAt 24 (S.pv) (I6 (((i - 1 + k) % S.ps.length : Nat) : Int)))) ((Po (bof S.pv) (oof S.pv + ((i - 1 + k) % S.ps.length) * 2))) w']), (10, [w'.cell? ⟨bof S.pv, oof S.pv + ((i - 1 + k) % S.ps.length) * 2, none⟩ = some (I6 p.l), w'.cell? ⟨bof S.pv, oof S.pv + ((i - 1 + k) % S.ps.length) * 2 + 1, none⟩ = some (p.rv)])]) [2, 3, 7, 10, 11, 12, 13, 51] [] hS (by kernel_rfl) (by kernel_rfl) (by kernel_rfl) (by kernel_rfl) (fun _ => by kernel_rfl) (by kernel_rfl) (by kernel_rfl) (by kernel_rfl) ?_ ?_ ?_
     ·intro e w' hw
      refine (.cons ?_ (.cons ?_ (.cons ?_ (.cons ?_ (.cons ?_ (.cons ?_ .nil))))))
      ·intro h1 h2
       replace h1 : 0 ≤ e := h1
       replace h2 : e ≤ 1 := h2
       have he : e = 0 ∨ e = 1 := by omega
       rcases he with rfl | rfl
       ·obtain rfl : w' = wl86.drew := hw.trans (by kernel_rfl)
        exact (.cons ((hb11.drew : Blk wl86.drew w41.heap.size 26 (#[S.lv, S.nv, I6 S.st, .slice bs m cq])).cell 3 rfl) .nil)
       ·obtain rfl : w' = (wl86.drew).alloc (.cells #[I6 p.l, p.rv] 73) := hw.trans (by kernel_rfl)
        exact (.cons (((hb11.drew).alloc _ : Blk ((wl86.drew).alloc (.cells #[I6 p.l, p.rv] 73)) w41.heap.size 26 (#[S.lv, S.nv, I6 S.st, .slice bs m cq])).cell 3 rfl) .nil)
      ·intro h1 h2
       obtain rfl : e = 0 := Nat.le_antisymm h2 h1
       obtain rfl : w' = wl86.drew := hw.trans (by kernel_rfl)
       exact (.cons (((hB43.ext hXl86 (by simp)).drew : Blk wl86.drew w.heap.size 26 (#[S.lv, S.nv, I6 S.st, S.pv])).cell 3 rfl) .nil)
      ·exact fun _ _ => (.cons ((by rw [show ((↑i - 1) + ↑k : Int) = ((i - 1 + k : Nat) : Int) from by omega]; exact as_i64 (by omega))) .nil)
      ·exact fun _ _ => (.cons ((bin_remNN (by omega))) .nil)
      ·exact fun _ _ => (.cons (ix_rd (e := 73) (j := ((i - 1 + k) % S.ps.length)) hG.prods (by kernel_rfl) (by kernel_rfl) rfl hml) .nil)
      ·intro h1 h2
       obtain rfl : e = 0 := Nat.le_antisymm h2 h1
       obtain rfl : w' = wl86.drew := hw.trans (by kernel_rfl)
       exact (.cons ((hG.prods.ext0 ((hbr58.trans0 hXl86).trans0 (by first | exact (Ext.refl [] _).drew | exact Ext.refl [] _))).cellAt (((i - 1 + k) % S.ps.length) * 2 + 0) (by omega) (pcells_at S.ps ((i - 1 + k) % S.ps.length) 0 p hpi (by omega))) (.cons ((hG.prods.ext0 ((hbr58.trans0 hXl86).trans0 (by first | exact (Ext.refl [] _).drew | exact Ext.refl [] _))).cellAt (((i - 1 + k) % S.ps.length) * 2 + 1) (by omega) (pcells_at S.ps ((i - 1 + k) % S.ps.length) 1 p hpi (by omega))) .nil))
     ·refine (.cons ?eq92_11 (.cons ?eq92_12 (.cons ?eq92_14 .nil)))
      ·refine eff_at (wl86.drew) ((wl86.drew).alloc (.cells #[I6 p.l, p.rv] 73)) (by kernel_rfl) (by kernel_rfl) ?_
       exact upon_new (nb := wl86.heap.size) (cs := #[I6 p.l, p.rv]) (T := 73) (v := Value.slice (some ⟨wl86.heap.size, 0, none⟩) 1 1) (d := (some 65)) (by kernel_rfl) (by first | rfl | simp [upd_size]) ⟨by kernel_rfl, by kernel_rfl⟩
      ·refine eff_at ((wl86.drew).alloc (.cells #[I6 p.l, p.rv] 73)) (wa91) (by kernel_rfl) (by kernel_rfl) ?_
       exact upon_run (s := vS (Builtin.append_ #[24, 24] 24 #[Value.slice bs m cq, Value.slice (some ⟨wl86.heap.size, 0, none⟩) 1 1])) (d := (some 66)) (v := Value.slice (some ⟨ga91, 0, none⟩) (m + 1) ca91) (by kernel_rfl) (vS_run hra91) ⟨by kernel_rfl, by kernel_rfl⟩
      ·refine eff_at (wa91) (upd (wa91) (w41.heap.size) 26 #[S.lv, S.nv, I6 S.st, .slice (some ⟨ga91, 0, none⟩) (m + 1) ca91]) (by kernel_rfl) (by kernel_rfl) ?_
       exact upon_store (b := w41.heap.size) (off := 3) (vs := [.slice (some ⟨ga91, 0, none⟩) (m + 1) ca91]) (by kernel_rfl) ((((hb11.drew).alloc _ : Blk ((wl86.drew).alloc (.cells #[I6 p.l, p.rv] 73)) w41.heap.size 26 (#[S.lv, S.nv, I6 S.st, .slice bs m cq]))).ext hEa91 (OwnV.notin ((hR.own.drew).alloc _ : OwnV ((wl86.drew).alloc (.cells #[I6 p.l, p.rv] 73)) 73 2 (.slice bs m cq) m (pcells qs)) ((hb11.drew).alloc _ : Blk ((wl86.drew).alloc (.cells #[I6 p.l, p.rv] 73)) w41.heap.size 26 (#[S.lv, S.nv, I6 S.st, .slice bs m cq])) (by decide)) : Blk wa91 w41.heap.size 26 (#[S.lv, S.nv, I6 S.st, .slice bs m cq])) (by simp) ⟨by kernel_rfl, by kernel_rfl⟩
     rintro a w93 hS hw94
     replace hw94 : w93 = upd (wa91) (w41.heap.size) 26 #[S.lv, S.nv, I6 S.st, .slice (some ⟨ga91, 0, none⟩) (m + 1) ca91] := hw94.trans (by kernel_rfl)
     have hB97 : Blk w93 w41.heap.size 26 (#[S.lv, S.nv, I6 S.st, .slice (some ⟨ga91, 0, none⟩) (m + 1) ca91]) := by rw [hw94]; exact ((((hb11.drew).alloc _ : Blk ((wl86.drew).alloc (.cells #[I6 p.l, p.rv] 73)) w41.heap.size 26 (#[S.lv, S.nv, I6 S.st, .slice bs m cq]))).ext hEa91 (OwnV.notin ((hR.own.drew).alloc _ : OwnV ((wl86.drew).alloc (.cells #[I6 p.l, p.rv] 73)) 73 2 (.slice bs m cq) m (pcells qs)) ((hb11.drew).alloc _ : Blk ((wl86.drew).alloc (.cells #[I6 p.l, p.rv] 73)) w41.heap.size 26 (#[S.lv, S.nv, I6 S.st, .slice bs m cq])) (by decide))).upd _ _
     have hB98 : OwnR w93 73 2 ga91 ca91 (m + 1) ((pcells qs) ++ [I6 p.l, p.rv]) := by rw [hw94]; exact (hOa91).updNe ((OwnR.ne_type hOa91 ((((hb11.drew).alloc _ : Blk ((wl86.drew).alloc (.cells #[I6 p.l, p.rv] 73)) w41.heap.size 26 (#[S.lv, S.nv, I6 S.st, .slice bs m cq]))).ext hEa91 (OwnV.notin ((hR.own.drew).alloc _ : OwnV ((wl86.drew).alloc (.cells #[I6 p.l, p.rv] 73)) 73 2 (.slice bs m cq) m (pcells qs)) ((hb11.drew).alloc _ : Blk ((wl86.drew).alloc (.cells #[I6 p.l, p.rv] 73)) w41.heap.size 26 (#[S.lv, S.nv, I6 S.st, .slice bs m cq])) (by decide))) (by decide)).symm) _ _
     have hE99 : Ext [] w41 w93 := by rw [hw94]; exact (((hXl86.drew).alloc _).trans hEa91 (fun b hb => .inr (hR.new b hb))).updIn (.inr hn11) _ _
     replace hS := hS.kp [(2, vt), (3, (Pv w.heap.size)), (7, (Pv wtT.heap.size)), (10, I6 ↑S.ps.length), (11, (Pv w41.heap.size)), (12, I6 ↑k), (13, I6 (↑i - 1)), (51, .bool (decide (((↑i - 1) : Int) ≥ 0)))]
     refine inBlock_normal ?_
     refine hK90 _ _ ?_
     refine rgn 3 ?_
     refine sg wide_wide [.p, .as (I6 (↑(i - 1) - 1)), .p] [Value.int .i64 (IntKind.i64.wrap ((↑i - 1) - 1)) = I6 (↑(i - 1) - 1)] [(2, vt), (3, (Pv w.heap.size)), (7, (Pv wtT.heap.size)), (10, I6 ↑S.ps.length), (11, (Pv w41.heap.size)), (12, I6 ↑k), (13, I6 (↑(i - 1) - 1)), (51, .bool (decide (((↑i - 1) : Int) ≥ 0)))] 3 0 hS (.cons ((by rw [show ((↑i - 1) - 1 : Int) = (↑(i - 1) - 1) from by omega]; exact as_i64 (by omega))) .nil) fun a hS => ?_
     refine seg_end ?_
     have hRn : RowP w41.heap.size w93 (some ⟨ga91, 0, none⟩) (m + 1) ca91 (qs ++ [p]) := hR.grow hB98 (hXl86.trans0 (((Ext.refl [] _).drew).alloc _)).size hFa91
     exact ⟨((i - 1), (some ⟨ga91, 0, none⟩), (m + 1), ca91, (qs ++ [p])), ⟨hS.kp [(2, vt), (3, (Pv w.heap.size)), (7, (Pv wtT.heap.size)), (10, I6 ↑S.ps.length), (11, (Pv w41.heap.size)), (12, I6 ↑k), (13, I6 (↑(i - 1) - 1))], hE99, by omega, by omega, hRn, hB97, fun q hq => by
      rcases List.mem_append.1 hq with hq | hq
      ·exact hq1 q hq
      ·simp at hq; rw [hq]; exact hpm, fun t h1 h2 q hq => by
      rcases Nat.lt_or_ge (i - 1) t with h3 | h3
      ·exact List.mem_append_left _ (hq2 t (by omega) h2 q hq)
      ·have : t = i - 1 := by omega
       rw [this, hpi] at hq; cases hq; simp⟩, by simp only; omega⟩
    ·
     replace hb89 := of_decide_eq_false hb89
     have hi0 : i = 0 := by omega
     have hqa : ∀ p ∈ S.ps, p ∈ qs := fun p hp => by
      obtain ⟨j, hj⟩ := List.getElem?_of_mem hp
      obtain ⟨t, h1, h2⟩ := turn_cover hkl (List.getElem?_eq_some_iff.1 hj).1
      exact hq2 t (by omega) h1 p (by rw [h2]; exact hj)
     have hql := hR.len
     refine wpIn_exit ?_
     refine then_exit ?_
     refine then_exit ?_
     refine inBlock_hit ?_
     refine hK84 _ _ ?_
     refine sq fun K100 hK100 => ?_
     refine sq fun K101 hK101 => ?_
     refine rgn 1 ?_
     refine sg wide_wide [.p] [] [(2, vt), (3, (Pv w.heap.size)), (7, (Pv wtT.heap.size)), (10, I6 ↑S.ps.length), (11, (Pv w41.heap.size)), (12, I6 ↑k), (13, I6 (↑i - 1)), (51, .bool (decide (((↑i - 1) : Int) ≥ 0))), (14, I6 0)] 1 0 hS .nil fun a hS => ?_
     refine seg_end ?_
     refine hK101 _ _ ?_
     refine wpIn_block ?_
     refine loop_ghost (fun ((i, bs2, m2, cq2, qs2) : Nat × (Option Addr) × Nat × Nat × (List Pd)) a' w' => St 119 [] [(2, vt), (3, (Pv w.heap.size)), (7, (Pv wtT.heap.size)), (10, I6 ↑S.ps.length), (11, (Pv w41.heap.size)), (14, I6 ↑i)] a' ∧ Ext [] w41 w' ∧ i ≤ mt ∧ m2 ≤ 512 ∧ RowP w41.heap.size w' bs2 m2 cq2 qs2 ∧ Blk w' (w41.heap.size) 26 #[S.lv, S.nv, I6 S.st, .slice bs2 m2 cq2] ∧ (∀ q ∈ qs2, q ∈ S.ps) ∧ (∀ p ∈ S.ps, p ∈ qs2)) (fun ((i, bs2, m2, cq2, qs2) : Nat × (Option Addr) × Nat × Nat × (List Pd)) => mt - i) (0, bs, m, cq, qs) ⟨hS.keepTo [2, 3, 7, 10, 11, 14] (by kernel_rfl), hXl86, Nat.zero_le _, by omega, hR, hb11, hq1, hqa⟩ ?_
     rintro ⟨i, bs2, m2, cq2, qs2⟩ a wl102 ⟨hS, hXl102, hi2, hm2, hR2, hb112, hq12, hqa2⟩
     refine sq fun K103 hK103 => ?_
     refine sq fun K104 hK104 => ?_
     rcases (show (i < mt ∧ m2 < 512) ∨ (i < mt ∧ ¬m2 < 512) ∨ (¬i < mt) from by omega) with ⟨hc1, hc2⟩ | ⟨hc1, hc2⟩ | hc1
     ·
      obtain ⟨t, hti⟩ : ∃ t, ts[i]? = some t := ⟨_, List.getElem?_eq_getElem (by omega)⟩
      obtain ⟨r2, hr2⟩ : ∃ r2 : Int, r2 = t.tmod S.ps.length := ⟨_, rfl⟩
      have hrb2 := tmod_bd t (n := S.ps.length) (by omega)
      rw [← hr2] at hrb2
      refine rgn 10 ?_
      refine sg wide_wide [.p, .p, .run (I6 ↑mt), .as (.bool true), .p, .p, .ld (.slice bs2 m2 cq2), .p, .as (.bool true), .p] [Ru Tryd.prog (vS (Builtin.len_ #[51] 3 #[vt])) (I6 ↑mt) wl102, Value.bool (decide ((↑i : Int) < ↑mt)) = .bool true, wl102.cell? ⟨w41.heap.size, 3, none⟩ = some (.slice bs2 m2 cq2), Value.bool (decide ((↑m2 : Int) < 512)) = .bool true] [(2, vt), (3, (Pv w.heap.size)), (7, (Pv wtT.heap.size)), (10, I6 ↑S.ps.length), (11, (Pv w41.heap.size)), (14, I6 ↑i), (77, .bool true)] 10 0 hS (.cons (run_len_rd (e := 3) ht (by kernel_rfl)) (.cons (as_t (by omega)) (.cons (hb112.cell 3 rfl) (.cons (as_t (by omega)) .nil)))) fun a hS => ?_
      refine seg_end ?_
      refine hK104 _ _ ?_
      refine cond_t hS rfl ?_
      refine wpIn_skip ?_
      refine hK103 _ _ ?_
      refine sq fun K105 hK105 => ?_
      refine wpIn_block ?_
      refine sq fun K106 hK106 => ?_
      have hjj : (∃ j : Nat, r2 = j ∧ j < S.ps.length) ∨ (∃ j : Nat, r2 + S.ps.length = j ∧ j < S.ps.length ∧ r2 < 0) := by
       rcases Int.lt_or_le r2 0 with h | h
       ·exact .inr ⟨(r2 + S.ps.length).toNat, by omega, by omega, h⟩
       ·exact .inl ⟨r2.toNat, by omega, by omega⟩
      rcases (show (∃ j : Nat, r2 = j ∧ j < S.ps.length) ∨ (∃ j : Nat, r2 + S.ps.length = j ∧ j < S.ps.length ∧ r2 < 0) from hjj) with ⟨j, hj, hjl⟩ | ⟨j, hj, hjl, hj0⟩
      ·
       obtain ⟨p, hpi⟩ : ∃ p, S.ps[j]? = some p := ⟨_, List.getElem?_eq_getElem hjl⟩
       have hpm := List.mem_of_getElem? hpi
       have hrm := hG.rmax p hpm
       have hql2 := hR2.len
       refine rgn 7 ?_
       refine sg wide_wide [.p, .p, .run ((Po (bof vt) (oof vt + i * 1))), .ld (I6 t), .p, .run (I6 ↑j), .p] [Ru Tryd.prog (vS (Instr.indexAt 51 (vt) (I6 ↑i))) ((Po (bof vt) (oof vt + i * 1))) wl102, wl102.cell? ⟨bof vt, oof vt + i * 1, none⟩ = some (I6 t), Ru Tryd.prog (vS (do eqGuard .rem 3 (.tmp 83) (.tmp 84) (I6 t) (I6 ↑S.ps.length); binOp .rem 3 (I6 t) (I6 ↑S.ps.length))) (I6 ↑j) wl102] [(2, vt), (3, (Pv w.heap.size)), (7, (Pv wtT.heap.size)), (10, I6 ↑S.ps.length), (11, (Pv w41.heap.size)), (14, I6 ↑i), (77, .bool true), (15, I6 ↑j)] 7 0 hS (.cons (ix_rd (e := 3) (j := i) ht (by kernel_rfl) (by kernel_rfl) rfl (by omega)) (.cons ((ht.ext0 (hbr58.trans0 hXl102)).cellAt (i * 1) (by omega) (its_at hti)) (.cons ((by have h := bin_rem (P := Tryd.prog) (w := wl102) (T := 3) (a := .tmp 83) (b := .tmp 84) (x := t) (y := (S.ps.length : Int)) (by omega); rw [← hr2, hj] at h; exact h)) .nil))) fun a hS => ?_
       refine seg_end ?_
       refine hK106 _ _ ?_
       refine sq fun K107 hK107 => ?_
       refine sq fun K108 hK108 => ?_
       refine rgn 2 ?_
       refine sg wide_wide [.p, .as (.bool false)] [Value.bool (decide ((↑j : Int) < 0)) = .bool false] [(2, vt), (3, (Pv w.heap.size)), (7, (Pv wtT.heap.size)), (10, I6 ↑S.ps.length), (11, (Pv w41.heap.size)), (14, I6 ↑i), (77, .bool true), (15, I6 ↑j), (87, .bool false)] 2 0 hS (.cons (as_f (by omega)) .nil) fun a hS => ?_
       refine seg_end ?_
       refine hK108 _ _ ?_
       refine cond_f hS rfl ?_
       refine wpIn_skip ?_
       refine hK107 _ _ ?_
       obtain ⟨ga109, ca109, wa109, hra109, hOa109, hEa109, hFa109⟩ := append_any (P := Tryd.prog) (w := (wl102.drew).alloc (.cells #[I6 p.l, p.rv] 73)) (t := 24) (ty := 24) (e := 73) (size := 2) (bytes := 32) (n := m2) (b := wl102.heap.size) (off := 0) (k := 1) (c := 1) (z := #[I6 0, .slice none 0 0]) (v := Value.slice bs2 m2 cq2) (xs := (pcells qs2)) (news := [I6 p.l, p.rv]) (by kernel_rfl) (by kernel_rfl) rfl (by decide) ((hR2.own.drew).alloc _ : OwnV ((wl102.drew).alloc (.cells #[I6 p.l, p.rv] 73)) 73 2 (.slice bs2 m2 cq2) m2 (pcells qs2)) (by simp) (fun j u hu => by rw [Nat.zero_add]; exact (Blk.new' _ _ _ (by first | rfl | simp [upd_size]) : Blk ((wl102.drew).alloc (.cells #[I6 p.l, p.rv] 73)) wl102.heap.size 73 (#[I6 p.l, p.rv])).cell j (by simpa using hu)) rfl (by omega) (by simp only [maxLen]; omega) (by omega)
       refine region_fn2 wide_wide [.q .p, .q (.ld (.slice bs2 m2 cq2)), .q .p, .q (.ld (S.pv)), .q .p, .q (.run ((Po (bof S.pv) (oof S.pv + j * 2)))), .q (.lds [I6 p.l, p.rv]), .e, .e, .q .p, .e] [0, 0, 0, 0, 0, 0, 0, 0, 1, 2, 2] [1, 1, 0, 0, 0, 0, 0, 0, 1, 2, 2] [0, 1, 0, 4, 0, 28, 60, 124, 255, 511, 1023] [7, 8, 10] 3 ([(2, vt), (3, (Pv w.heap.size)), (7, (Pv wtT.heap.size)), (10, I6 ↑S.ps.length), (11, (Pv w41.heap.size)), (14, I6 ↑i), (77, .bool true), (15, I6 ↑j), (87, .bool false), (91, (Po w41.heap.size 3)), (92, .slice bs2 m2 cq2), (93, (Po w.heap.size 3)), (94, S.pv), (95, I6 ↑j), (96, (Po (bof S.pv) (oof S.pv + j * 2))), (97, .agg #[I6 p.l, p.rv]), (98, .slice (some ⟨wl102.heap.size, 0, none⟩) 1 1), (99, .slice (some ⟨ga109, 0, none⟩) (m2 + 1) ca109), (100, (Po w41.heap.size 3))]) [wl102.drew, (wl102.drew).alloc (.cells #[I6 p.l, p.rv] 73), wa109, upd (wa109) (w41.heap.size) 26 #[S.lv, S.nv, I6 S.st, .slice (some ⟨ga109, 0, none⟩) (m2 + 1) ca109]] wl102.drew (fun w' => [(1, [w'.cell? ⟨w41.heap.size, 3, none⟩ = some (.slice bs2 m2 cq2)]), (3, [w'.cell? ⟨w.heap.size, 3, none⟩ = some (S.pv)]), (5, [Ru Tryd.prog (vS (Instr.indexAt 24 (S.pv) (I6 ↑j))) ((Po (bof S.pv) (oof S.pv + j * 2))) w']), (6, [w'.cell? ⟨bof S.pv, oof S.pv + j * 2, none⟩ = some (I6 p.l), w'.cell? ⟨bof S.pv, oof S.pv + j * 2 + 1, none⟩ = some (p.rv)])]) [2, 3, 7, 10, 11, 14, 77, 15, 87] [] hS (by kernel_rfl) (by kernel_rfl) (by kernel_rfl) (by kernel_rfl) (fun _ => by kernel_rfl) (by kernel_rfl) (by kernel_rfl) (by kernel_rfl) ?_ ?_ ?_
       ·intro e w' hw
        refine (.cons ?_ (.cons ?_ (.cons ?_ (.cons ?_ .nil))))
        ·intro h1 h2
         replace h1 : 0 ≤ e := h1
         replace h2 : e ≤ 1 := h2
         have he : e = 0 ∨ e = 1 := by omega
         rcases he with rfl | rfl
         ·obtain rfl : w' = wl102.drew := hw.trans (by kernel_rfl)
          exact (.cons ((hb112.drew : Blk wl102.drew w41.heap.size 26 (#[S.lv, S.nv, I6 S.st, .slice bs2 m2 cq2])).cell 3 rfl) .nil)
         ·obtain rfl : w' = (wl102.drew).alloc (.cells #[I6 p.l, p.rv] 73) := hw.trans (by kernel_rfl)
          exact (.cons (((hb112.drew).alloc _ : Blk ((wl102.drew).alloc (.cells #[I6 p.l, p.rv] 73)) w41.heap.size 26 (#[S.lv, S.nv, I6 S.st, .slice bs2 m2 cq2])).cell 3 rfl) .nil)
        ·intro h1 h2
         obtain rfl : e = 0 := Nat.le_antisymm h2 h1
         obtain rfl : w' = wl102.drew := hw.trans (by kernel_rfl)
         exact (.cons (((hB43.ext hXl102 (by simp)).drew : Blk wl102.drew w.heap.size 26 (#[S.lv, S.nv, I6 S.st, S.pv])).cell 3 rfl) .nil)
        ·exact fun _ _ => (.cons (ix_rd (e := 73) (j := j) hG.prods (by kernel_rfl) (by kernel_rfl) rfl (by omega)) .nil)
        ·intro h1 h2
         obtain rfl : e = 0 := Nat.le_antisymm h2 h1
         obtain rfl : w' = wl102.drew := hw.trans (by kernel_rfl)
         exact (.cons ((hG.prods.ext0 ((hbr58.trans0 hXl102).trans0 (by first | exact (Ext.refl [] _).drew | exact Ext.refl [] _))).cellAt (j * 2 + 0) (by omega) (pcells_at S.ps j 0 p hpi (by omega))) (.cons ((hG.prods.ext0 ((hbr58.trans0 hXl102).trans0 (by first | exact (Ext.refl [] _).drew | exact Ext.refl [] _))).cellAt (j * 2 + 1) (by omega) (pcells_at S.ps j 1 p hpi (by omega))) .nil))
       ·refine (.cons ?eq110_7 (.cons ?eq110_8 (.cons ?eq110_10 .nil)))
        ·refine eff_at (wl102.drew) ((wl102.drew).alloc (.cells #[I6 p.l, p.rv] 73)) (by kernel_rfl) (by kernel_rfl) ?_
         exact upon_new (nb := wl102.heap.size) (cs := #[I6 p.l, p.rv]) (T := 73) (v := Value.slice (some ⟨wl102.heap.size, 0, none⟩) 1 1) (d := (some 98)) (by kernel_rfl) (by first | rfl | simp [upd_size]) ⟨by kernel_rfl, by kernel_rfl⟩
        ·refine eff_at ((wl102.drew).alloc (.cells #[I6 p.l, p.rv] 73)) (wa109) (by kernel_rfl) (by kernel_rfl) ?_
         exact upon_run (s := vS (Builtin.append_ #[24, 24] 24 #[Value.slice bs2 m2 cq2, Value.slice (some ⟨wl102.heap.size, 0, none⟩) 1 1])) (d := (some 99)) (v := Value.slice (some ⟨ga109, 0, none⟩) (m2 + 1) ca109) (by kernel_rfl) (vS_run hra109) ⟨by kernel_rfl, by kernel_rfl⟩
        ·refine eff_at (wa109) (upd (wa109) (w41.heap.size) 26 #[S.lv, S.nv, I6 S.st, .slice (some ⟨ga109, 0, none⟩) (m2 + 1) ca109]) (by kernel_rfl) (by kernel_rfl) ?_
         exact upon_store (b := w41.heap.size) (off := 3) (vs := [.slice (some ⟨ga109, 0, none⟩) (m2 + 1) ca109]) (by kernel_rfl) ((((hb112.drew).alloc _ : Blk ((wl102.drew).alloc (.cells #[I6 p.l, p.rv] 73)) w41.heap.size 26 (#[S.lv, S.nv, I6 S.st, .slice bs2 m2 cq2]))).ext hEa109 (OwnV.notin ((hR2.own.drew).alloc _ : OwnV ((wl102.drew).alloc (.cells #[I6 p.l, p.rv] 73)) 73 2 (.slice bs2 m2 cq2) m2 (pcells qs2)) ((hb112.drew).alloc _ : Blk ((wl102.drew).alloc (.cells #[I6 p.l, p.rv] 73)) w41.heap.size 26 (#[S.lv, S.nv, I6 S.st, .slice bs2 m2 cq2])) (by decide)) : Blk wa109 w41.heap.size 26 (#[S.lv, S.nv, I6 S.st, .slice bs2 m2 cq2])) (by simp) ⟨by kernel_rfl, by kernel_rfl⟩
       rintro a w111 hS hw112
       replace hw112 : w111 = upd (wa109) (w41.heap.size) 26 #[S.lv, S.nv, I6 S.st, .slice (some ⟨ga109, 0, none⟩) (m2 + 1) ca109] := hw112.trans (by kernel_rfl)
       have hB115 : Blk w111 w41.heap.size 26 (#[S.lv, S.nv, I6 S.st, .slice (some ⟨ga109, 0, none⟩) (m2 + 1) ca109]) := by rw [hw112]; exact ((((hb112.drew).alloc _ : Blk ((wl102.drew).alloc (.cells #[I6 p.l, p.rv] 73)) w41.heap.size 26 (#[S.lv, S.nv, I6 S.st, .slice bs2 m2 cq2]))).ext hEa109 (OwnV.notin ((hR2.own.drew).alloc _ : OwnV ((wl102.drew).alloc (.cells #[I6 p.l, p.rv] 73)) 73 2 (.slice bs2 m2 cq2) m2 (pcells qs2)) ((hb112.drew).alloc _ : Blk ((wl102.drew).alloc (.cells #[I6 p.l, p.rv] 73)) w41.heap.size 26 (#[S.lv, S.nv, I6 S.st, .slice bs2 m2 cq2])) (by decide))).upd _ _
       have hB116 : OwnR w111 73 2 ga109 ca109 (m2 + 1) ((pcells qs2) ++ [I6 p.l, p.rv]) := by rw [hw112]; exact (hOa109).updNe ((OwnR.ne_type hOa109 ((((hb112.drew).alloc _ : Blk ((wl102.drew).alloc (.cells #[I6 p.l, p.rv] 73)) w41.heap.size 26 (#[S.lv, S.nv, I6 S.st, .slice bs2 m2 cq2]))).ext hEa109 (OwnV.notin ((hR2.own.drew).alloc _ : OwnV ((wl102.drew).alloc (.cells #[I6 p.l, p.rv] 73)) 73 2 (.slice bs2 m2 cq2) m2 (pcells qs2)) ((hb112.drew).alloc _ : Blk ((wl102.drew).alloc (.cells #[I6 p.l, p.rv] 73)) w41.heap.size 26 (#[S.lv, S.nv, I6 S.st, .slice bs2 m2 cq2])) (by decide))) (by decide)).symm) _ _
       have hE117 : Ext [] w41 w111 := by rw [hw112]; exact (((hXl102.drew).alloc _).trans hEa109 (fun b hb => .inr (hR2.new b hb))).updIn (.inr hn11) _ _
       replace hS := hS.kp [(2, vt), (3, (Pv w.heap.size)), (7, (Pv wtT.heap.size)), (10, I6 ↑S.ps.length), (11, (Pv w41.heap.size)), (14, I6 ↑i), (77, .bool true), (15, I6 ↑j), (87, .bool false)]
       refine inBlock_normal ?_
       refine hK105 _ _ ?_
       refine rgn 3 ?_
       refine sg wide_wide [.p, .as (I6 (↑i + 1)), .p] [Value.int .i64 (IntKind.i64.wrap (↑i + 1)) = I6 (↑i + 1)] [(2, vt), (3, (Pv w.heap.size)), (7, (Pv wtT.heap.size)), (10, I6 ↑S.ps.length), (11, (Pv w41.heap.size)), (14, I6 (↑i + 1)), (77, .bool true), (15, I6 ↑j), (87, .bool false)] 3 0 hS (.cons (as_i64 (by omega)) .nil) fun a hS => ?_
       refine seg_end ?_
       have hRn : RowP w41.heap.size w111 (some ⟨ga109, 0, none⟩) (m2 + 1) ca109 (qs2 ++ [p]) := hR2.grow hB116 (hXl102.trans0 (((Ext.refl [] _).drew).alloc _)).size hFa109
       exact ⟨(i + 1, (some ⟨ga109, 0, none⟩), (m2 + 1), ca109, (qs2 ++ [p])), ⟨hS.kp [(2, vt), (3, (Pv w.heap.size)), (7, (Pv wtT.heap.size)), (10, I6 ↑S.ps.length), (11, (Pv w41.heap.size)), (14, I6 (↑i + 1))], hE117, by omega, by omega, hRn, hB115, fun q hq => by
        rcases List.mem_append.1 hq with hq | hq
        ·exact hq12 q hq
        ·simp at hq; rw [hq]; exact hpm, fun q hq => List.mem_append_left _ (hqa2 q hq)⟩, by simp only; omega⟩
      ·
       obtain ⟨p, hpi⟩ : ∃ p, S.ps[j]? = some p := ⟨_, List.getElem?_eq_getElem hjl⟩
       have hpm := List.mem_of_getElem? hpi
       have hrm := hG.rmax p hpm
       have hql2 := hR2.len
       refine rgn 7 ?_
       refine sg wide_wide [.p, .p, .run ((Po (bof vt) (oof vt + i * 1))), .ld (I6 t), .p, .run (I6 r2), .p] [Ru Tryd.prog (vS (Instr.indexAt 51 (vt) (I6 ↑i))) ((Po (bof vt) (oof vt + i * 1))) wl102, wl102.cell? ⟨bof vt, oof vt + i * 1, none⟩ = some (I6 t), Ru Tryd.prog (vS (do eqGuard .rem 3 (.tmp 83) (.tmp 84) (I6 t) (I6 ↑S.ps.length); binOp .rem 3 (I6 t) (I6 ↑S.ps.length))) (I6 r2) wl102] [(2, vt), (3, (Pv w.heap.size)), (7, (Pv wtT.heap.size)), (10, I6 ↑S.ps.length), (11, (Pv w41.heap.size)), (14, I6 ↑i), (77, .bool true), (15, I6 r2)] 7 0 hS (.cons (ix_rd (e := 3) (j := i) ht (by kernel_rfl) (by kernel_rfl) rfl (by omega)) (.cons ((ht.ext0 (hbr58.trans0 hXl102)).cellAt (i * 1) (by omega) (its_at hti)) (.cons ((by have h := bin_rem (P := Tryd.prog) (w := wl102) (T := 3) (a := .tmp 83) (b := .tmp 84) (x := t) (y := (S.ps.length : Int)) (by omega); rw [← hr2] at h; exact h)) .nil))) fun a hS => ?_
       refine seg_end ?_
       refine hK106 _ _ ?_
       refine sq fun K118 hK118 => ?_
       refine sq fun K119 hK119 => ?_
       refine rgn 2 ?_
       refine sg wide_wide [.p, .as (.bool true)] [Value.bool (decide ((r2 : Int) < 0)) = .bool true] [(2, vt), (3, (Pv w.heap.size)), (7, (Pv wtT.heap.size)), (10, I6 ↑S.ps.length), (11, (Pv w41.heap.size)), (14, I6 ↑i), (77, .bool true), (15, I6 r2), (87, .bool true)] 2 0 hS (.cons (as_t (by omega)) .nil) fun a hS => ?_
       refine seg_end ?_
       refine hK119 _ _ ?_
       refine cond_t hS rfl ?_
       refine rgn 4 ?_
       refine sg wide_wide [.p, .p, .as (I6 ↑j), .p] [Value.int .i64 (IntKind.i64.wrap (r2 + ↑S.ps.length)) = I6 ↑j] [(2, vt), (3, (Pv w.heap.size)), (7, (Pv wtT.heap.size)), (10, I6 ↑S.ps.length), (11, (Pv w41.heap.size)), (14, I6 ↑i), (77, .bool true), (15, I6 ↑j), (87, .bool true)] 4 0 hS (.cons ((by rw [show (r2 + ↑S.ps.length : Int) = ↑j from by omega]; exact as_i64 (by omega))) .nil) fun a hS => ?_
       refine seg_end ?_
       refine hK118 _ _ ?_
       obtain ⟨ga120, ca120, wa120, hra120, hOa120, hEa120, hFa120⟩ := append_any (P := Tryd.prog) (w := (wl102.drew).alloc (.cells #[I6 p.l, p.rv] 73)) (t := 24) (ty := 24) (e := 73) (size := 2) (bytes := 32) (n := m2) (b := wl102.heap.size) (off := 0) (k := 1) (c := 1) (z := #[I6 0, .slice none 0 0]) (v := Value.slice bs2 m2 cq2) (xs := (pcells qs2)) (news := [I6 p.l, p.rv]) (by kernel_rfl) (by kernel_rfl) rfl (by decide) ((hR2.own.drew).alloc _ : OwnV ((wl102.drew).alloc (.cells #[I6 p.l, p.rv] 73)) 73 2 (.slice bs2 m2 cq2) m2 (pcells qs2)) (by simp) (fun j u hu => by rw [Nat.zero_add]; exact (Blk.new' _ _ _ (by first | rfl | simp [upd_size]) : Blk ((wl102.drew).alloc (.cells #[I6 p.l, p.rv] 73)) wl102.heap.size 73 (#[I6 p.l, p.rv])).cell j (by simpa using hu)) rfl (by omega) (by simp only [maxLen]; omega) (by omega)
       refine region_fn2 wide_wide [.q .p, .q (.ld (.slice bs2 m2 cq2)), .q .p, .q (.ld (S.pv)), .q .p, .q (.run ((Po (bof S.pv) (oof S.pv + j * 2)))), .q (.lds [I6 p.l, p.rv]), .e, .e, .q .p, .e] [0, 0, 0, 0, 0, 0, 0, 0, 1, 2, 2] [1, 1, 0, 0, 0, 0, 0, 0, 1, 2, 2] [0, 1, 0, 4, 0, 28, 60, 124, 255, 511, 1023] [7, 8, 10] 3 ([(2, vt), (3, (Pv w.heap.size)), (7, (Pv wtT.heap.size)), (10, I6 ↑S.ps.length), (11, (Pv w41.heap.size)), (14, I6 ↑i), (77, .bool true), (15, I6 ↑j), (87, .bool true), (91, (Po w41.heap.size 3)), (92, .slice bs2 m2 cq2), (93, (Po w.heap.size 3)), (94, S.pv), (95, I6 ↑j), (96, (Po (bof S.pv) (oof S.pv + j * 2))), (97, .agg #[I6 p.l, p.rv]), (98, .slice (some ⟨wl102.heap.size, 0, none⟩) 1 1), (99, .slice (some ⟨ga120, 0, none⟩) (m2 + 1) ca120), (100, (Po w41.heap.size 3))]) [wl102.drew, (wl102.drew).alloc (.cells #[I6 p.l, p.rv] 73), wa120, upd (wa120) (w41.heap.size) 26 #[S.lv, S.nv, I6 S.st, .slice (some ⟨ga120, 0, none⟩) (m2 + 1) ca120]] wl102.drew (fun w' => [(1, [w'.cell? ⟨w41.heap.size, 3, none⟩ = some (.slice bs2 m2 cq2)]), (3, [w'.cell? ⟨w.heap.size, 3, none⟩ = some (S.pv)]), (5, [Ru Tryd.prog (vS (Instr.indexAt 24 (S.pv) (I6 ↑j))) ((Po (bof S.pv) (oof S.pv + j * 2))) w']), (6, [w'.cell? ⟨bof S.pv, oof S.pv + j * 2, none⟩ = some (I6 p.l), w'.cell? ⟨bof S.pv, oof S.pv + j * 2 + 1, none⟩ = some (p.rv)])]) [2, 3, 7, 10, 11, 14, 77, 15, 87] [] hS (by kernel_rfl) (by kernel_rfl) (by kernel_rfl) (by kernel_rfl) (fun _ => by kernel_rfl) (by kernel_rfl) (by kernel_rfl) (by kernel_rfl) ?_ ?_ ?_
       ·intro e w' hw
        refine (.cons ?_ (.cons ?_ (.cons ?_ (.cons ?_ .nil))))
        ·intro h1 h2
         replace h1 : 0 ≤ e := h1
         replace h2 : e ≤ 1 := h2
         have he : e = 0 ∨ e = 1 := by omega
         rcases he with rfl | rfl
         ·obtain rfl : w' = wl102.drew := hw.trans (by kernel_rfl)
          exact (.cons ((hb112.drew : Blk wl102.drew w41.heap.size 26 (#[S.lv, S.nv, I6 S.st, .slice bs2 m2 cq2])).cell 3 rfl) .nil)
         ·obtain rfl : w' = (wl102.drew).alloc (.cells #[I6 p.l, p.rv] 73) := hw.trans (by kernel_rfl)
          exact (.cons (((hb112.drew).alloc _ : Blk ((wl102.drew).alloc (.cells #[I6 p.l, p.rv] 73)) w41.heap.size 26 (#[S.lv, S.nv, I6 S.st, .slice bs2 m2 cq2])).cell 3 rfl) .nil)
        ·intro h1 h2
         obtain rfl : e = 0 := Nat.le_antisymm h2 h1
         obtain rfl : w' = wl102.drew := hw.trans (by kernel_rfl)
         exact (.cons (((hB43.ext hXl102 (by simp)).drew : Blk wl102.drew w.heap.size 26 (#[S.lv, S.nv, I6 S.st, S.pv])).cell 3 rfl) .nil)
        ·exact fun _ _ => (.cons (ix_rd (e := 73) (j := j) hG.prods (by kernel_rfl) (by kernel_rfl) rfl (by omega)) .nil)
        ·intro h1 h2
         obtain rfl : e = 0 := Nat.le_antisymm h2 h1
         obtain rfl : w' = wl102.drew := hw.trans (by kernel_rfl)
         exact (.cons ((hG.prods.ext0 ((hbr58.trans0 hXl102).trans0 (by first | exact (Ext.refl [] _).drew | exact Ext.refl [] _))).cellAt (j * 2 + 0) (by omega) (pcells_at S.ps j 0 p hpi (by omega))) (.cons ((hG.prods.ext0 ((hbr58.trans0 hXl102).trans0 (by first | exact (Ext.refl [] _).drew | exact Ext.refl [] _))).cellAt (j * 2 + 1) (by omega) (pcells_at S.ps j 1 p hpi (by omega))) .nil))
       ·refine (.cons ?eq121_7 (.cons ?eq121_8 (.cons ?eq121_10 .nil)))
        ·refine eff_at (wl102.drew) ((wl102.drew).alloc (.cells #[I6 p.l, p.rv] 73)) (by kernel_rfl) (by kernel_rfl) ?_
         exact upon_new (nb := wl102.heap.size) (cs := #[I6 p.l, p.rv]) (T := 73) (v := Value.slice (some ⟨wl102.heap.size, 0, none⟩) 1 1) (d := (some 98)) (by kernel_rfl) (by first | rfl | simp [upd_size]) ⟨by kernel_rfl, by kernel_rfl⟩
        ·refine eff_at ((wl102.drew).alloc (.cells #[I6 p.l, p.rv] 73)) (wa120) (by kernel_rfl) (by kernel_rfl) ?_
         exact upon_run (s := vS (Builtin.append_ #[24, 24] 24 #[Value.slice bs2 m2 cq2, Value.slice (some ⟨wl102.heap.size, 0, none⟩) 1 1])) (d := (some 99)) (v := Value.slice (some ⟨ga120, 0, none⟩) (m2 + 1) ca120) (by kernel_rfl) (vS_run hra120) ⟨by kernel_rfl, by kernel_rfl⟩
        ·refine eff_at (wa120) (upd (wa120) (w41.heap.size) 26 #[S.lv, S.nv, I6 S.st, .slice (some ⟨ga120, 0, none⟩) (m2 + 1) ca120]) (by kernel_rfl) (by kernel_rfl) ?_
         exact upon_store (b := w41.heap.size) (off := 3) (vs := [.slice (some ⟨ga120, 0, none⟩) (m2 + 1) ca120]) (by kernel_rfl) ((((hb112.drew).alloc _ : Blk ((wl102.drew).alloc (.cells #[I6 p.l, p.rv] 73)) w41.heap.size 26 (#[S.lv, S.nv, I6 S.st, .slice bs2 m2 cq2]))).ext hEa120 (OwnV.notin ((hR2.own.drew).alloc _ : OwnV ((wl102.drew).alloc (.cells #[I6 p.l, p.rv] 73)) 73 2 (.slice bs2 m2 cq2) m2 (pcells qs2)) ((hb112.drew).alloc _ : Blk ((wl102.drew).alloc (.cells #[I6 p.l, p.rv] 73)) w41.heap.size 26 (#[S.lv, S.nv, I6 S.st, .slice bs2 m2 cq2])) (by decide)) : Blk wa120 w41.heap.size 26 (#[S.lv, S.nv, I6 S.st, .slice bs2 m2 cq2])) (by simp) ⟨by kernel_rfl, by kernel_rfl⟩
       rintro a w122 hS hw123
       replace hw123 : w122 = upd (wa120) (w41.heap.size) 26 #[S.lv, S.nv, I6 S.st, .slice (some ⟨ga120, 0, none⟩) (m2 + 1) ca120] := hw123.trans (by kernel_rfl)
       have hB126 : Blk w122 w41.heap.size 26 (#[S.lv, S.nv, I6 S.st, .slice (some ⟨ga120, 0, none⟩) (m2 + 1) ca120]) := by rw [hw123]; exact ((((hb112.drew).alloc _ : Blk ((wl102.drew).alloc (.cells #[I6 p.l, p.rv] 73)) w41.heap.size 26 (#[S.lv, S.nv, I6 S.st, .slice bs2 m2 cq2]))).ext hEa120 (OwnV.notin ((hR2.own.drew).alloc _ : OwnV ((wl102.drew).alloc (.cells #[I6 p.l, p.rv] 73)) 73 2 (.slice bs2 m2 cq2) m2 (pcells qs2)) ((hb112.drew).alloc _ : Blk ((wl102.drew).alloc (.cells #[I6 p.l, p.rv] 73)) w41.heap.size 26 (#[S.lv, S.nv, I6 S.st, .slice bs2 m2 cq2])) (by decide))).upd _ _
       have hB127 : OwnR w122 73 2 ga120 ca120 (m2 + 1) ((pcells qs2) ++ [I6 p.l, p.rv]) := by rw [hw123]; exact (hOa120).updNe ((OwnR.ne_type hOa120 ((((hb112.drew).alloc _ : Blk ((wl102.drew).alloc (.cells #[I6 p.l, p.rv] 73)) w41.heap.size 26 (#[S.lv, S.nv, I6 S.st, .slice bs2 m2 cq2]))).ext hEa120 (OwnV.notin ((hR2.own.drew).alloc _ : OwnV ((wl102.drew).alloc (.cells #[I6 p.l, p.rv] 73)) 73 2 (.slice bs2 m2 cq2) m2 (pcells qs2)) ((hb112.drew).alloc _ : Blk ((wl102.drew).alloc (.cells #[I6 p.l, p.rv] 73)) w41.heap.size 26 (#[S.lv, S.nv, I6 S.st, .slice bs2 m2 cq2])) (by decide))) (by decide)).symm) _ _
       have hE128 : Ext [] w41 w122 := by rw [hw123]; exact (((hXl102.drew).alloc _).trans hEa120 (fun b hb => .inr (hR2.new b hb))).updIn (.inr hn11) _ _
       replace hS := hS.kp [(2, vt), (3, (Pv w.heap.size)), (7, (Pv wtT.heap.size)), (10, I6 ↑S.ps.length), (11, (Pv w41.heap.size)), (14, I6 ↑i), (77, .bool true), (15, I6 ↑j), (87, .bool true)]
       refine inBlock_normal ?_
       refine hK105 _ _ ?_
       refine rgn 3 ?_
       refine sg wide_wide [.p, .as (I6 (↑i + 1)), .p] [Value.int .i64 (IntKind.i64.wrap (↑i + 1)) = I6 (↑i + 1)] [(2, vt), (3, (Pv w.heap.size)), (7, (Pv wtT.heap.size)), (10, I6 ↑S.ps.length), (11, (Pv w41.heap.size)), (14, I6 (↑i + 1)), (77, .bool true), (15, I6 ↑j), (87, .bool true)] 3 0 hS (.cons (as_i64 (by omega)) .nil) fun a hS => ?_
       refine seg_end ?_
       have hRn : RowP w41.heap.size w122 (some ⟨ga120, 0, none⟩) (m2 + 1) ca120 (qs2 ++ [p]) := hR2.grow hB127 (hXl102.trans0 (((Ext.refl [] _).drew).alloc _)).size hFa120
       exact ⟨(i + 1, (some ⟨ga120, 0, none⟩), (m2 + 1), ca120, (qs2 ++ [p])), ⟨hS.kp [(2, vt), (3, (Pv w.heap.size)), (7, (Pv wtT.heap.size)), (10, I6 ↑S.ps.length), (11, (Pv w41.heap.size)), (14, I6 (↑i + 1))], hE128, by omega, by omega, hRn, hB126, fun q hq => by
        rcases List.mem_append.1 hq with hq | hq
        ·exact hq12 q hq
        ·simp at hq; rw [hq]; exact hpm, fun q hq => List.mem_append_left _ (hqa2 q hq)⟩, by simp only; omega⟩
     ·
      refine rgn 10 ?_
      refine sg wide_wide [.p, .p, .run (I6 ↑mt), .as (.bool true), .p, .p, .ld (.slice bs2 m2 cq2), .p, .as (.bool false), .p] [Ru Tryd.prog (vS (Builtin.len_ #[51] 3 #[vt])) (I6 ↑mt) wl102, Value.bool (decide ((↑i : Int) < ↑mt)) = .bool true, wl102.cell? ⟨w41.heap.size, 3, none⟩ = some (.slice bs2 m2 cq2), Value.bool (decide ((↑m2 : Int) < 512)) = .bool false] [(2, vt), (3, (Pv w.heap.size)), (7, (Pv wtT.heap.size)), (10, I6 ↑S.ps.length), (11, (Pv w41.heap.size)), (14, I6 ↑i), (77, .bool false)] 10 0 hS (.cons (run_len_rd (e := 3) ht (by kernel_rfl)) (.cons (as_t (by omega)) (.cons (hb112.cell 3 rfl) (.cons (as_f (by omega)) .nil)))) fun a hS => ?_
      refine seg_end ?_
      refine hK104 _ _ ?_
      refine cond_f hS rfl ?_
      refine wpIn_exit ?_
      refine then_exit ?_
      refine then_exit ?_
      refine inBlock_hit ?_
      refine hK100 _ _ ?_
      refine sq fun K129 hK129 => ?_
      have hql2 := hR2.len
      have hG2 := with_ok hG (hbr58.trans0 hXl102) hR2 hq12 (by omega)
      have hok2 := hok.with (pa := bs2) (pc := cq2) hq12 hqa2 (by omega)
      have hgg := with_g (pa := bs2) (pc := cq2) hq12 hqa2
      have hT2 := hT.ext0 (hbr58.trans0 hXl102)
      refine rgn 10 ?_
      refine sg wide_wide [.lds [S.lv, S.nv, I6 S.st, .slice bs2 m2 cq2]] [wl102.cell? ⟨w41.heap.size, 0, none⟩ = some (S.lv), wl102.cell? ⟨w41.heap.size, 1, none⟩ = some (S.nv), wl102.cell? ⟨w41.heap.size, 2, none⟩ = some (I6 S.st), wl102.cell? ⟨w41.heap.size, 3, none⟩ = some (.slice bs2 m2 cq2)] [(2, vt), (3, (Pv w.heap.size)), (7, (Pv wtT.heap.size)), (10, I6 ↑S.ps.length), (11, (Pv w41.heap.size)), (14, I6 ↑i), (77, .bool false), (102, .agg #[S.lv, S.nv, I6 S.st, .slice bs2 m2 cq2])] 1 9 hS (.cons (hb112.cell 0 rfl) (.cons (hb112.cell 1 rfl) (.cons (hb112.cell 2 rfl) (.cons (hb112.cell 3 rfl) .nil)))) fun a hS => ?_
      refine eff_call wide_wide (r := 8) (f := 27) (vs := [.agg #[S.lv, S.nv, I6 S.st, .slice bs2 m2 cq2]]) (cap := #[]) (d := (some 103)) hS (by kernel_rfl) Tryd.call27 #[.agg #[S.lv, S.nv, I6 S.st, .slice bs2 m2 cq2]] (by kernel_rfl) (told_S2 hG2 (Ext.refl [] _) hT2 hok2 hql2) ?_
      rintro _ wc130 ⟨T2130, rfl, hT2130, hEc130⟩
      refine ⟨_, rfl, fun a hS => ?_⟩
      have hB132 := (hB44.ext hXl102 (by simp)).ext hEc130 (by simp)
      have hE135 := hXl102.trans0 hEc130
      refine sg wide_wide [.p, .p, .p, .p] [] [(2, vt), (3, (Pv w.heap.size)), (7, (Pv wtT.heap.size)), (10, I6 ↑S.ps.length), (11, (Pv w41.heap.size)), (14, I6 ↑i), (77, .bool false), (104, .agg #[.slice (some ⟨T2130.eg, 0, none⟩) S.ns.length S.ns.length, .slice T2130.fb S.ns.length T2130.fc, .slice T2130.wb S.ns.length T2130.wc, .slice T2130.yb T2130.yn T2130.yc, .bool T2130.full]), (105, .bool true), (106, .bool true)] 6 4 hS .nil fun a hS => ?_
      refine eff_box wide_wide (r := 3) (cs := #[.slice none 0 0, .slice none 0 0, .slice none 0 0, .slice none 0 0, .bool false]) (T := 53) (d := (some 16)) hS (by kernel_rfl) fun a w136 hw137 hS => ?_
      have hn139 : wtT.heap.size ≠ wc130.heap.size := Nat.ne_of_lt hB132.lt
      have hB143 := Blk.at' hw137 (hB132.alloc _)
      have hX146 : Ext [] wc130 w136 := by rw [hw137]; exact (Ext.refl _ _).alloc _
      have hG147 : TdOk (S.with bs2 cq2 qs2) wl102.heap.size w136 T2130 := hT2130.ext0 hX146
      have hB148 : Blk w136 (wc130.heap.size) 53 #[.slice none 0 0, .slice none 0 0, .slice none 0 0, .slice none 0 0, .bool false] := by rw [hw137]; exact Blk.new _ _ _
      have hs149 : w41.heap.size ≤ wc130.heap.size := hE135.size
      have hE150 : Ext [] w41 w136 := by rw [hw137]; exact hE135.alloc _
      refine eff_store wide_wide (r := 2) (b := wc130.heap.size) (off := 0) (vs := [.slice (some ⟨T2130.eg, 0, none⟩) S.ns.length S.ns.length, .slice T2130.fb S.ns.length T2130.fc, .slice T2130.wb S.ns.length T2130.wc, .slice T2130.yb T2130.yn T2130.yc, .bool T2130.full]) hS (by kernel_rfl) hB148 (by simp) fun a w151 hw152 hS => ?_
      have hB154 := Blk.at' hw152 (hB143.updNe (Ne.symm hn139) _ _)
      have hB157 : Blk w151 wc130.heap.size 53 (#[.slice (some ⟨T2130.eg, 0, none⟩) S.ns.length S.ns.length, .slice T2130.fb S.ns.length T2130.fc, .slice T2130.wb S.ns.length T2130.wc, .slice T2130.yb T2130.yn T2130.yc, .bool T2130.full]) := by rw [hw152]; exact hB148.upd _ _
      have hX158 : Ext [wc130.heap.size] w136 w151 := by rw [hw152]; exact (Ext.refl _ _).updIn (.inl (by simp)) _ _
      have hG159 : TdOk (S.with bs2 cq2 qs2) wl102.heap.size w151 T2130 := hG147.extT hX158 hB148 (by decide) (by decide) (by decide)
      have hE160 : Ext [] w41 w151 := by rw [hw152]; exact hE150.updIn (.inr hs149) _ _
      refine sg wide_wide [.p, .p] [] [(2, vt), (3, (Pv w.heap.size)), (7, (Pv wtT.heap.size)), (10, I6 ↑S.ps.length), (11, (Pv w41.heap.size)), (14, I6 ↑i), (77, .bool false), (16, (Pv wc130.heap.size)), (17, .bool true), (18, .bool true)] 10 0 hS .nil fun a hS => ?_
      refine seg_end ?_
      refine hK129 _ _ ?_
      refine sq fun K161 hK161 => ?_
      refine rgn 13 ?_
      refine sg wide_wide [.p, .p, .p, .p, .p, .lds [.slice (some ⟨T.eg, 0, none⟩) S.ns.length S.ns.length, .slice T.fb S.ns.length T.fc, .slice T.wb S.ns.length T.wc, .slice T.yb T.yn T.yc, .bool T.full], .lds [.slice (some ⟨T2130.eg, 0, none⟩) S.ns.length S.ns.length, .slice T2130.fb S.ns.length T2130.fc, .slice T2130.wb S.ns.length T2130.wc, .slice T2130.yb T2130.yn T2130.yc, .bool T2130.full]] [w151.cell? ⟨wtT.heap.size, 0, none⟩ = some (.slice (some ⟨T.eg, 0, none⟩) S.ns.length S.ns.length), w151.cell? ⟨wtT.heap.size, 1, none⟩ = some (.slice T.fb S.ns.length T.fc), w151.cell? ⟨wtT.heap.size, 2, none⟩ = some (.slice T.wb S.ns.length T.wc), w151.cell? ⟨wtT.heap.size, 3, none⟩ = some (.slice T.yb T.yn T.yc), w151.cell? ⟨wtT.heap.size, 4, none⟩ = some (.bool T.full), w151.cell? ⟨wc130.heap.size, 0, none⟩ = some (.slice (some ⟨T2130.eg, 0, none⟩) S.ns.length S.ns.length), w151.cell? ⟨wc130.heap.size, 1, none⟩ = some (.slice T2130.fb S.ns.length T2130.fc), w151.cell? ⟨wc130.heap.size, 2, none⟩ = some (.slice T2130.wb S.ns.length T2130.wc), w151.cell? ⟨wc130.heap.size, 3, none⟩ = some (.slice T2130.yb T2130.yn T2130.yc), w151.cell? ⟨wc130.heap.size, 4, none⟩ = some (.bool T2130.full)] [(2, vt), (3, (Pv w.heap.size)), (7, (Pv wtT.heap.size)), (10, I6 ↑S.ps.length), (11, (Pv w41.heap.size)), (14, I6 ↑i), (77, .bool false), (16, (Pv wc130.heap.size)), (17, .bool true), (18, .bool true), (111, .bool true), (112, .agg #[.slice (some ⟨T.eg, 0, none⟩) S.ns.length S.ns.length, .slice T.fb S.ns.length T.fc, .slice T.wb S.ns.length T.wc, .slice T.yb T.yn T.yc, .bool T.full]), (113, .agg #[.slice (some ⟨T2130.eg, 0, none⟩) S.ns.length S.ns.length, .slice T2130.fb S.ns.length T2130.fc, .slice T2130.wb S.ns.length T2130.wc, .slice T2130.yb T2130.yn T2130.yc, .bool T2130.full])] 7 6 hS (.cons (hB154.cell 0 rfl) (.cons (hB154.cell 1 rfl) (.cons (hB154.cell 2 rfl) (.cons (hB154.cell 3 rfl) (.cons (hB154.cell 4 rfl) (.cons (hB157.cell 0 rfl) (.cons (hB157.cell 1 rfl) (.cons (hB157.cell 2 rfl) (.cons (hB157.cell 3 rfl) (.cons (hB157.cell 4 rfl) .nil)))))))))) fun a hS => ?_
      refine eff_call wide_wide (r := 5) (f := 32) (vs := [.agg #[.slice (some ⟨T.eg, 0, none⟩) S.ns.length S.ns.length, .slice T.fb S.ns.length T.fc, .slice T.wb S.ns.length T.wc, .slice T.yb T.yn T.yc, .bool T.full], .agg #[.slice (some ⟨T2130.eg, 0, none⟩) S.ns.length S.ns.length, .slice T2130.fb S.ns.length T2130.fc, .slice T2130.wb S.ns.length T2130.wc, .slice T2130.yb T2130.yn T2130.yc, .bool T2130.full]]) (cap := #[]) (d := (some 114)) hS (by kernel_rfl) Tryd.call32 #[.agg #[.slice (some ⟨T.eg, 0, none⟩) S.ns.length S.ns.length, .slice T.fb S.ns.length T.fc, .slice T.wb S.ns.length T.wc, .slice T.yb T.yn T.yc, .bool T.full], .agg #[.slice (some ⟨T2130.eg, 0, none⟩) S.ns.length S.ns.length, .slice T2130.fb S.ns.length T2130.fc, .slice T2130.wb S.ns.length T2130.wc, .slice T2130.yb T2130.yn T2130.yc, .bool T2130.full]] (by kernel_rfl) (sameTold_T (S' := S.with bs2 cq2 qs2) hgg rfl rfl rfl (hG46.ext0 hE160) hG159 hnmax) ?_
      rintro _ wc162 ⟨rfl, hEc162⟩
      refine ⟨_, rfl, fun a hS => ?_⟩
      have hG168 : TdOk (S.with bs2 cq2 qs2) wl102.heap.size wc162 T2130 := hG159.ext0 hEc162
      have hE169 := hE160.trans0 hEc162
      refine sg wide_wide [.p, .p] [] [(2, vt), (3, (Pv w.heap.size)), (7, (Pv wtT.heap.size)), (10, I6 ↑S.ps.length), (11, (Pv w41.heap.size)), (14, I6 ↑i), (77, .bool false), (16, (Pv wc130.heap.size)), (17, .bool true), (18, .bool true), (116, .bool true)] 10 3 hS .nil fun a hS => ?_
      refine eff_call wide_wide (r := 2) (f := 12) (vs := []) (cap := #[]) (d := (some 117)) hS (by kernel_rfl) Tryd.call12 #[] (by kernel_rfl) (Head_any (hT.ext0 (hbr58.trans0 hE169))) ?_
      rintro _ wc170 ⟨rfl, hEc170⟩
      refine ⟨_, rfl, fun a hS => ?_⟩
      have hG176 : TdOk (S.with bs2 cq2 qs2) wl102.heap.size wc170 T2130 := hG168.ext0 hEc170
      have hE177 := hE169.trans0 hEc170
      refine sg wide_wide [.p, .p] [] [(2, vt), (3, (Pv w.heap.size)), (7, (Pv wtT.heap.size)), (10, I6 ↑S.ps.length), (11, (Pv w41.heap.size)), (14, I6 ↑i), (77, .bool false), (16, (Pv wc130.heap.size)), (17, .bool true), (18, .bool true), (6, .bool true)] 13 0 hS .nil fun a hS => ?_
      refine seg_end ?_
      refine hK161 _ _ ?_
      refine wpIn_ret ?_
      refine ret1 hS Tryd.results6 rfl ?_
      exact ⟨rfl, (hE47.trans0 hE177)⟩
     ·
      refine rgn 10 ?_
      refine sg wide_wide [.p, .p, .run (I6 ↑mt), .as (.bool false), .p, .no, .no, .no, .no, .p] [Ru Tryd.prog (vS (Builtin.len_ #[51] 3 #[vt])) (I6 ↑mt) wl102, Value.bool (decide ((↑i : Int) < ↑mt)) = .bool false] [(2, vt), (3, (Pv w.heap.size)), (7, (Pv wtT.heap.size)), (10, I6 ↑S.ps.length), (11, (Pv w41.heap.size)), (14, I6 ↑i), (77, .bool false)] 10 0 hS (.cons (run_len_rd (e := 3) ht (by kernel_rfl)) (.cons (as_f (by omega)) .nil)) fun a hS => ?_
      refine seg_end ?_
      refine hK104 _ _ ?_
      refine cond_f hS rfl ?_
      refine wpIn_exit ?_
      refine then_exit ?_
      refine then_exit ?_
      refine inBlock_hit ?_
      refine hK100 _ _ ?_
      refine sq fun K178 hK178 => ?_
      have hql2 := hR2.len
      have hG2 := with_ok hG (hbr58.trans0 hXl102) hR2 hq12 (by omega)
      have hok2 := hok.with (pa := bs2) (pc := cq2) hq12 hqa2 (by omega)
      have hgg := with_g (pa := bs2) (pc := cq2) hq12 hqa2
      have hT2 := hT.ext0 (hbr58.trans0 hXl102)
      refine rgn 10 ?_
      refine sg wide_wide [.lds [S.lv, S.nv, I6 S.st, .slice bs2 m2 cq2]] [wl102.cell? ⟨w41.heap.size, 0, none⟩ = some (S.lv), wl102.cell? ⟨w41.heap.size, 1, none⟩ = some (S.nv), wl102.cell? ⟨w41.heap.size, 2, none⟩ = some (I6 S.st), wl102.cell? ⟨w41.heap.size, 3, none⟩ = some (.slice bs2 m2 cq2)] [(2, vt), (3, (Pv w.heap.size)), (7, (Pv wtT.heap.size)), (10, I6 ↑S.ps.length), (11, (Pv w41.heap.size)), (14, I6 ↑i), (77, .bool false), (102, .agg #[S.lv, S.nv, I6 S.st, .slice bs2 m2 cq2])] 1 9 hS (.cons (hb112.cell 0 rfl) (.cons (hb112.cell 1 rfl) (.cons (hb112.cell 2 rfl) (.cons (hb112.cell 3 rfl) .nil)))) fun a hS => ?_
      refine eff_call wide_wide (r := 8) (f := 27) (vs := [.agg #[S.lv, S.nv, I6 S.st, .slice bs2 m2 cq2]]) (cap := #[]) (d := (some 103)) hS (by kernel_rfl) Tryd.call27 #[.agg #[S.lv, S.nv, I6 S.st, .slice bs2 m2 cq2]] (by kernel_rfl) (told_S2 hG2 (Ext.refl [] _) hT2 hok2 hql2) ?_
      rintro _ wc179 ⟨T2179, rfl, hT2179, hEc179⟩
      refine ⟨_, rfl, fun a hS => ?_⟩
      have hB181 := (hB44.ext hXl102 (by simp)).ext hEc179 (by simp)
      have hE184 := hXl102.trans0 hEc179
      refine sg wide_wide [.p, .p, .p, .p] [] [(2, vt), (3, (Pv w.heap.size)), (7, (Pv wtT.heap.size)), (10, I6 ↑S.ps.length), (11, (Pv w41.heap.size)), (14, I6 ↑i), (77, .bool false), (104, .agg #[.slice (some ⟨T2179.eg, 0, none⟩) S.ns.length S.ns.length, .slice T2179.fb S.ns.length T2179.fc, .slice T2179.wb S.ns.length T2179.wc, .slice T2179.yb T2179.yn T2179.yc, .bool T2179.full]), (105, .bool true), (106, .bool true)] 6 4 hS .nil fun a hS => ?_
      refine eff_box wide_wide (r := 3) (cs := #[.slice none 0 0, .slice none 0 0, .slice none 0 0, .slice none 0 0, .bool false]) (T := 53) (d := (some 16)) hS (by kernel_rfl) fun a w185 hw186 hS => ?_
      have hn188 : wtT.heap.size ≠ wc179.heap.size := Nat.ne_of_lt hB181.lt
      have hB192 := Blk.at' hw186 (hB181.alloc _)
      have hX195 : Ext [] wc179 w185 := by rw [hw186]; exact (Ext.refl _ _).alloc _
      have hG196 : TdOk (S.with bs2 cq2 qs2) wl102.heap.size w185 T2179 := hT2179.ext0 hX195
      have hB197 : Blk w185 (wc179.heap.size) 53 #[.slice none 0 0, .slice none 0 0, .slice none 0 0, .slice none 0 0, .bool false] := by rw [hw186]; exact Blk.new _ _ _
      have hs198 : w41.heap.size ≤ wc179.heap.size := hE184.size
      have hE199 : Ext [] w41 w185 := by rw [hw186]; exact hE184.alloc _
      refine eff_store wide_wide (r := 2) (b := wc179.heap.size) (off := 0) (vs := [.slice (some ⟨T2179.eg, 0, none⟩) S.ns.length S.ns.length, .slice T2179.fb S.ns.length T2179.fc, .slice T2179.wb S.ns.length T2179.wc, .slice T2179.yb T2179.yn T2179.yc, .bool T2179.full]) hS (by kernel_rfl) hB197 (by simp) fun a w200 hw201 hS => ?_
      have hB203 := Blk.at' hw201 (hB192.updNe (Ne.symm hn188) _ _)
      have hB206 : Blk w200 wc179.heap.size 53 (#[.slice (some ⟨T2179.eg, 0, none⟩) S.ns.length S.ns.length, .slice T2179.fb S.ns.length T2179.fc, .slice T2179.wb S.ns.length T2179.wc, .slice T2179.yb T2179.yn T2179.yc, .bool T2179.full]) := by rw [hw201]; exact hB197.upd _ _
      have hX207 : Ext [wc179.heap.size] w185 w200 := by rw [hw201]; exact (Ext.refl _ _).updIn (.inl (by simp)) _ _
      have hG208 : TdOk (S.with bs2 cq2 qs2) wl102.heap.size w200 T2179 := hG196.extT hX207 hB197 (by decide) (by decide) (by decide)
      have hE209 : Ext [] w41 w200 := by rw [hw201]; exact hE199.updIn (.inr hs198) _ _
      refine sg wide_wide [.p, .p] [] [(2, vt), (3, (Pv w.heap.size)), (7, (Pv wtT.heap.size)), (10, I6 ↑S.ps.length), (11, (Pv w41.heap.size)), (14, I6 ↑i), (77, .bool false), (16, (Pv wc179.heap.size)), (17, .bool true), (18, .bool true)] 10 0 hS .nil fun a hS => ?_
      refine seg_end ?_
      refine hK178 _ _ ?_
      refine sq fun K210 hK210 => ?_
      refine rgn 13 ?_
      refine sg wide_wide [.p, .p, .p, .p, .p, .lds [.slice (some ⟨T.eg, 0, none⟩) S.ns.length S.ns.length, .slice T.fb S.ns.length T.fc, .slice T.wb S.ns.length T.wc, .slice T.yb T.yn T.yc, .bool T.full], .lds [.slice (some ⟨T2179.eg, 0, none⟩) S.ns.length S.ns.length, .slice T2179.fb S.ns.length T2179.fc, .slice T2179.wb S.ns.length T2179.wc, .slice T2179.yb T2179.yn T2179.yc, .bool T2179.full]] [w200.cell? ⟨wtT.heap.size, 0, none⟩ = some (.slice (some ⟨T.eg, 0, none⟩) S.ns.length S.ns.length), w200.cell? ⟨wtT.heap.size, 1, none⟩ = some (.slice T.fb S.ns.length T.fc), w200.cell? ⟨wtT.heap.size, 2, none⟩ = some (.slice T.wb S.ns.length T.wc), w200.cell? ⟨wtT.heap.size, 3, none⟩ = some (.slice T.yb T.yn T.yc), w200.cell? ⟨wtT.heap.size, 4, none⟩ = some (.bool T.full), w200.cell? ⟨wc179.heap.size, 0, none⟩ = some (.slice (some ⟨T2179.eg, 0, none⟩) S.ns.length S.ns.length), w200.cell? ⟨wc179.heap.size, 1, none⟩ = some (.slice T2179.fb S.ns.length T2179.fc), w200.cell? ⟨wc179.heap.size, 2, none⟩ = some (.slice T2179.wb S.ns.length T2179.wc), w200.cell? ⟨wc179.heap.size, 3, none⟩ = some (.slice T2179.yb T2179.yn T2179.yc), w200.cell? ⟨wc179.heap.size, 4, none⟩ = some (.bool T2179.full)] [(2, vt), (3, (Pv w.heap.size)), (7, (Pv wtT.heap.size)), (10, I6 ↑S.ps.length), (11, (Pv w41.heap.size)), (14, I6 ↑i), (77, .bool false), (16, (Pv wc179.heap.size)), (17, .bool true), (18, .bool true), (111, .bool true), (112, .agg #[.slice (some ⟨T.eg, 0, none⟩) S.ns.length S.ns.length, .slice T.fb S.ns.length T.fc, .slice T.wb S.ns.length T.wc, .slice T.yb T.yn T.yc, .bool T.full]), (113, .agg #[.slice (some ⟨T2179.eg, 0, none⟩) S.ns.length S.ns.length, .slice T2179.fb S.ns.length T2179.fc, .slice T2179.wb S.ns.length T2179.wc, .slice T2179.yb T2179.yn T2179.yc, .bool T2179.full])] 7 6 hS (.cons (hB203.cell 0 rfl) (.cons (hB203.cell 1 rfl) (.cons (hB203.cell 2 rfl) (.cons (hB203.cell 3 rfl) (.cons (hB203.cell 4 rfl) (.cons (hB206.cell 0 rfl) (.cons (hB206.cell 1 rfl) (.cons (hB206.cell 2 rfl) (.cons (hB206.cell 3 rfl) (.cons (hB206.cell 4 rfl) .nil)))))))))) fun a hS => ?_
      refine eff_call wide_wide (r := 5) (f := 32) (vs := [.agg #[.slice (some ⟨T.eg, 0, none⟩) S.ns.length S.ns.length, .slice T.fb S.ns.length T.fc, .slice T.wb S.ns.length T.wc, .slice T.yb T.yn T.yc, .bool T.full], .agg #[.slice (some ⟨T2179.eg, 0, none⟩) S.ns.length S.ns.length, .slice T2179.fb S.ns.length T2179.fc, .slice T2179.wb S.ns.length T2179.wc, .slice T2179.yb T2179.yn T2179.yc, .bool T2179.full]]) (cap := #[]) (d := (some 114)) hS (by kernel_rfl) Tryd.call32 #[.agg #[.slice (some ⟨T.eg, 0, none⟩) S.ns.length S.ns.length, .slice T.fb S.ns.length T.fc, .slice T.wb S.ns.length T.wc, .slice T.yb T.yn T.yc, .bool T.full], .agg #[.slice (some ⟨T2179.eg, 0, none⟩) S.ns.length S.ns.length, .slice T2179.fb S.ns.length T2179.fc, .slice T2179.wb S.ns.length T2179.wc, .slice T2179.yb T2179.yn T2179.yc, .bool T2179.full]] (by kernel_rfl) (sameTold_T (S' := S.with bs2 cq2 qs2) hgg rfl rfl rfl (hG46.ext0 hE209) hG208 hnmax) ?_
      rintro _ wc211 ⟨rfl, hEc211⟩
      refine ⟨_, rfl, fun a hS => ?_⟩
      have hG217 : TdOk (S.with bs2 cq2 qs2) wl102.heap.size wc211 T2179 := hG208.ext0 hEc211
      have hE218 := hE209.trans0 hEc211
      refine sg wide_wide [.p, .p] [] [(2, vt), (3, (Pv w.heap.size)), (7, (Pv wtT.heap.size)), (10, I6 ↑S.ps.length), (11, (Pv w41.heap.size)), (14, I6 ↑i), (77, .bool false), (16, (Pv wc179.heap.size)), (17, .bool true), (18, .bool true), (116, .bool true)] 10 3 hS .nil fun a hS => ?_
      refine eff_call wide_wide (r := 2) (f := 12) (vs := []) (cap := #[]) (d := (some 117)) hS (by kernel_rfl) Tryd.call12 #[] (by kernel_rfl) (Head_any (hT.ext0 (hbr58.trans0 hE218))) ?_
      rintro _ wc219 ⟨rfl, hEc219⟩
      refine ⟨_, rfl, fun a hS => ?_⟩
      have hG225 : TdOk (S.with bs2 cq2 qs2) wl102.heap.size wc219 T2179 := hG217.ext0 hEc219
      have hE226 := hE218.trans0 hEc219
      refine sg wide_wide [.p, .p] [] [(2, vt), (3, (Pv w.heap.size)), (7, (Pv wtT.heap.size)), (10, I6 ↑S.ps.length), (11, (Pv w41.heap.size)), (14, I6 ↑i), (77, .bool false), (16, (Pv wc179.heap.size)), (17, .bool true), (18, .bool true), (6, .bool true)] 13 0 hS .nil fun a hS => ?_
      refine seg_end ?_
      refine hK210 _ _ ?_
      refine wpIn_ret ?_
      refine ret1 hS Tryd.results6 rfl ?_
      exact ⟨rfl, (hE47.trans0 hE226)⟩
   ·
    refine rgn 4 ?_
    refine sg wide_wide [.p, .p, .run (I6 r), .p] [Ru Tryd.prog (vS (do eqGuard .rem 3 (.tmp 40) (.tmp 41) (I6 turn) (I6 ↑S.ps.length); binOp .rem 3 (I6 turn) (I6 ↑S.ps.length))) (I6 r) w75] [(0, .agg #[S.lv, S.nv, I6 S.st, S.pv]), (1, I6 turn), (2, vt), (3, (Pv w.heap.size)), (6, .bool false), (7, (Pv wtT.heap.size)), (8, .bool true), (9, .bool true), (10, I6 ↑S.ps.length), (33, .bool false), (11, (Pv w41.heap.size)), (12, I6 r)] 4 0 hS (.cons ((by have h := bin_rem (P := Tryd.prog) (w := w75) (T := 3) (a := .tmp 40) (b := .tmp 41) (x := turn) (y := (S.ps.length : Int)) (by omega); rw [← hr] at h; exact h)) .nil) fun a hS => ?_
    refine seg_end ?_
    refine hK81 _ _ ?_
    refine sq fun K227 hK227 => ?_
    refine sq fun K228 hK228 => ?_
    refine rgn 2 ?_
    refine sg wide_wide [.p, .as (.bool true)] [Value.bool (decide ((r : Int) < 0)) = .bool true] [(0, .agg #[S.lv, S.nv, I6 S.st, S.pv]), (1, I6 turn), (2, vt), (3, (Pv w.heap.size)), (6, .bool false), (7, (Pv wtT.heap.size)), (8, .bool true), (9, .bool true), (10, I6 ↑S.ps.length), (33, .bool false), (11, (Pv w41.heap.size)), (12, I6 r), (44, .bool true)] 2 0 hS (.cons (as_t (by omega)) .nil) fun a hS => ?_
    refine seg_end ?_
    refine hK228 _ _ ?_
    refine cond_t hS rfl ?_
    refine rgn 4 ?_
    refine sg wide_wide [.p, .p, .as (I6 ↑k), .p] [Value.int .i64 (IntKind.i64.wrap (r + ↑S.ps.length)) = I6 ↑k] [(0, .agg #[S.lv, S.nv, I6 S.st, S.pv]), (1, I6 turn), (2, vt), (3, (Pv w.heap.size)), (6, .bool false), (7, (Pv wtT.heap.size)), (8, .bool true), (9, .bool true), (10, I6 ↑S.ps.length), (33, .bool false), (11, (Pv w41.heap.size)), (12, I6 ↑k), (44, .bool true)] 4 0 hS (.cons ((by rw [show (r + ↑S.ps.length : Int) = ↑k from by omega]; exact as_i64 (by omega))) .nil) fun a hS => ?_
    refine seg_end ?_
    refine hK227 _ _ ?_
    refine sq fun K229 hK229 => ?_
    refine sq fun K230 hK230 => ?_
    refine rgn 3 ?_
    refine sg wide_wide [.p, .as (I6 (↑S.ps.length - 1)), .p] [Value.int .i64 (IntKind.i64.wrap (↑S.ps.length - 1)) = I6 (↑S.ps.length - 1)] [(0, .agg #[S.lv, S.nv, I6 S.st, S.pv]), (1, I6 turn), (2, vt), (3, (Pv w.heap.size)), (6, .bool false), (7, (Pv wtT.heap.size)), (8, .bool true), (9, .bool true), (10, I6 ↑S.ps.length), (33, .bool false), (11, (Pv w41.heap.size)), (12, I6 ↑k), (44, .bool true), (13, I6 (↑S.ps.length - 1))] 3 0 hS (.cons (as_i64 (by omega)) .nil) fun a hS => ?_
    refine seg_end ?_
    refine hK230 _ _ ?_
    refine wpIn_block ?_
    have hn11 : w41.heap.size ≤ w41.heap.size := hs66
    refine loop_ghost (fun ((i, bs, m, cq, qs) : Nat × (Option Addr) × Nat × Nat × (List Pd)) a' w' => St 119 [] [(2, vt), (3, (Pv w.heap.size)), (7, (Pv wtT.heap.size)), (10, I6 ↑S.ps.length), (11, (Pv w41.heap.size)), (12, I6 ↑k), (13, I6 (↑i - 1))] a' ∧ Ext [] w41 w' ∧ i ≤ S.ps.length ∧ m + i = S.ps.length ∧ RowP w41.heap.size w' bs m cq qs ∧ Blk w' (w41.heap.size) 26 #[S.lv, S.nv, I6 S.st, .slice bs m cq] ∧ (∀ q ∈ qs, q ∈ S.ps) ∧ (∀ t, i ≤ t → t < S.ps.length → ∀ q, S.ps[(t + k) % S.ps.length]? = some q → q ∈ qs)) (fun ((i, bs, m, cq, qs) : Nat × (Option Addr) × Nat × Nat × (List Pd)) => i) (S.ps.length, none, 0, 0, []) ⟨hS.keepTo [2, 3, 7, 10, 11, 12, 13] (by kernel_rfl), hE80, Nat.le_refl _, by omega, ⟨OwnV.nil _ _ _, fun x hx => by simp [ob] at hx⟩, hB79, fun q hq => by simp at hq, fun t h1 h2 => by omega⟩ ?_
    rintro ⟨i, bs, m, cq, qs⟩ a wl231 ⟨hS, hXl231, hi, hmi, hR, hb11, hq1, hq2⟩
    refine sq fun K232 hK232 => ?_
    refine sq fun K233 hK233 => ?_
    refine rgn 2 ?_
    refine sg wide_wide [.p, .p] [] [(2, vt), (3, (Pv w.heap.size)), (7, (Pv wtT.heap.size)), (10, I6 ↑S.ps.length), (11, (Pv w41.heap.size)), (12, I6 ↑k), (13, I6 (↑i - 1)), (51, .bool (decide (((↑i - 1) : Int) ≥ 0)))] 2 0 hS .nil fun a hS => ?_
    refine seg_end ?_
    refine hK233 _ _ ?_
    refine cond_b hS rfl (fun hb234 => ?_) (fun hb234 => ?_)
    ·
     replace hb234 := of_decide_eq_true hb234
     obtain ⟨p, hpi⟩ : ∃ p, S.ps[(i - 1 + k) % S.ps.length]? = some p := ⟨_, List.getElem?_eq_getElem (Nat.mod_lt _ hn0)⟩
     have hpm := List.mem_of_getElem? hpi
     have hrm := hG.rmax p hpm
     have hql := hR.len
     have hml := Nat.mod_lt (i - 1 + k) hn0
     refine wpIn_skip ?_
     refine hK232 _ _ ?_
     refine sq fun K235 hK235 => ?_
     refine wpIn_block ?_
     obtain ⟨ga236, ca236, wa236, hra236, hOa236, hEa236, hFa236⟩ := append_any (P := Tryd.prog) (w := (wl231.drew).alloc (.cells #[I6 p.l, p.rv] 73)) (t := 24) (ty := 24) (e := 73) (size := 2) (bytes := 32) (n := m) (b := wl231.heap.size) (off := 0) (k := 1) (c := 1) (z := #[I6 0, .slice none 0 0]) (v := Value.slice bs m cq) (xs := (pcells qs)) (news := [I6 p.l, p.rv]) (by kernel_rfl) (by kernel_rfl) rfl (by decide) ((hR.own.drew).alloc _ : OwnV ((wl231.drew).alloc (.cells #[I6 p.l, p.rv] 73)) 73 2 (.slice bs m cq) m (pcells qs)) (by simp) (fun j u hu => by rw [Nat.zero_add]; exact (Blk.new' _ _ _ (by first | rfl | simp [upd_size]) : Blk ((wl231.drew).alloc (.cells #[I6 p.l, p.rv] 73)) wl231.heap.size 73 (#[I6 p.l, p.rv])).cell j (by simpa using hu)) rfl (by omega) (by simp only [maxLen]; omega) (by omega)
     refine region_fn2 wide_wide [.q .p, .q (.ld (.slice bs m cq)), .q .p, .q (.ld (S.pv)), .q .p, .q .p, .q (.as (I6 ((i - 1 + k : Nat) : Int))), .q .p, .q (.run (I6 (((i - 1 + k) % S.ps.length : Nat) : Int))), .q (.run ((Po (bof S.pv) (oof S.pv + ((i - 1 + k) % S.ps.length) * 2)))), .q (.lds [I6 p.l, p.rv]), .e, .e, .q .p, .e] [0, 0, 0, 0, 0, 0, 0, 0, 0, 0, 0, 0, 1, 2, 2] [1, 1, 0, 0, 0, 0, 0, 0, 0, 0, 0, 0, 1, 2, 2] [0, 1, 0, 4, 0, 0, 48, 0, 240, 508, 1020, 2044, 4095, 8191, 16383] [11, 12, 14] 3 ([(2, vt), (3, (Pv w.heap.size)), (7, (Pv wtT.heap.size)), (10, I6 ↑S.ps.length), (11, (Pv w41.heap.size)), (12, I6 ↑k), (13, I6 (↑i - 1)), (51, .bool (decide (((↑i - 1) : Int) ≥ 0))), (54, (Po w41.heap.size 3)), (55, .slice bs m cq), (56, (Po w.heap.size 3)), (57, S.pv), (58, I6 (↑i - 1)), (59, I6 ↑k), (60, I6 ((i - 1 + k : Nat) : Int)), (61, I6 ↑S.ps.length), (62, I6 (((i - 1 + k) % S.ps.length : Nat) : Int)), (63, (Po (bof S.pv) (oof S.pv + ((i - 1 + k) % S.ps.length) * 2))), (64, .agg #[I6 p.l, p.rv]), (65, .slice (some ⟨wl231.heap.size, 0, none⟩) 1 1), (66, .slice (some ⟨ga236, 0, none⟩) (m + 1) ca236), (67, (Po w41.heap.size 3))]) [wl231.drew, (wl231.drew).alloc (.cells #[I6 p.l, p.rv] 73), wa236, upd (wa236) (w41.heap.size) 26 #[S.lv, S.nv, I6 S.st, .slice (some ⟨ga236, 0, none⟩) (m + 1) ca236]] wl231.drew (fun w' => [(1, [w'.cell? ⟨w41.heap.size, 3, none⟩ = some (.slice bs m cq)]), (3, [w'.cell? ⟨w.heap.size, 3, none⟩ = some (S.pv)]), (6, [Value.int .i64 (IntKind.i64.wrap ((↑i - 1) + ↑k)) = I6 ((i - 1 + k : Nat) : Int)]), (8, [Ru Tryd.prog (vS (do eqGuard .rem 3 (.tmp 60) (.tmp 61) (I6 ((i - 1 + k : Nat) : Int)) (I6 ↑S.ps.length); binOp .rem 3 (I6 ((i - 1 + k : Nat) : Int)) (I6 ↑S.ps.length))) (I6 (((i - 1 + k) % S.ps.length : Nat) : Int)) w']), (9, [Ru Tryd.prog (vS (Instr.indexAt 24 (S.pv) (I6 (((i - 1 + k) % S.ps.length : Nat) : Int)))) ((Po (bof S.pv) (oof S.pv + ((i - 1 + k) % S.ps.length) * 2))) w']), (10, [w'.cell? ⟨bof S.pv, oof S.pv + ((i - 1 + k) % S.ps.length) * 2, none⟩ = some (I6 p.l), w'.cell? ⟨bof S.pv, oof S.pv + ((i - 1 + k) % S.ps.length) * 2 + 1, none⟩ = some (p.rv)])]) [2, 3, 7, 10, 11, 12, 13, 51] [] hS (by kernel_rfl) (by kernel_rfl) (by kernel_rfl) (by kernel_rfl) (fun _ => by kernel_rfl) (by kernel_rfl) (by kernel_rfl) (by kernel_rfl) ?_ ?_ ?_
     ·intro e w' hw
      refine (.cons ?_ (.cons ?_ (.cons ?_ (.cons ?_ (.cons ?_ (.cons ?_ .nil))))))
      ·intro h1 h2
       replace h1 : 0 ≤ e := h1
       replace h2 : e ≤ 1 := h2
       have he : e = 0 ∨ e = 1 := by omega
       rcases he with rfl | rfl
       ·obtain rfl : w' = wl231.drew := hw.trans (by kernel_rfl)
        exact (.cons ((hb11.drew : Blk wl231.drew w41.heap.size 26 (#[S.lv, S.nv, I6 S.st, .slice bs m cq])).cell 3 rfl) .nil)
       ·obtain rfl : w' = (wl231.drew).alloc (.cells #[I6 p.l, p.rv] 73) := hw.trans (by kernel_rfl)
        exact (.cons (((hb11.drew).alloc _ : Blk ((wl231.drew).alloc (.cells #[I6 p.l, p.rv] 73)) w41.heap.size 26 (#[S.lv, S.nv, I6 S.st, .slice bs m cq])).cell 3 rfl) .nil)
      ·intro h1 h2
       obtain rfl : e = 0 := Nat.le_antisymm h2 h1
       obtain rfl : w' = wl231.drew := hw.trans (by kernel_rfl)
       exact (.cons (((hB43.ext hXl231 (by simp)).drew : Blk wl231.drew w.heap.size 26 (#[S.lv, S.nv, I6 S.st, S.pv])).cell 3 rfl) .nil)
      ·exact fun _ _ => (.cons ((by rw [show ((↑i - 1) + ↑k : Int) = ((i - 1 + k : Nat) : Int) from by omega]; exact as_i64 (by omega))) .nil)
      ·exact fun _ _ => (.cons ((bin_remNN (by omega))) .nil)
      ·exact fun _ _ => (.cons (ix_rd (e := 73) (j := ((i - 1 + k) % S.ps.length)) hG.prods (by kernel_rfl) (by kernel_rfl) rfl hml) .nil)
      ·intro h1 h2
       obtain rfl : e = 0 := Nat.le_antisymm h2 h1
       obtain rfl : w' = wl231.drew := hw.trans (by kernel_rfl)
       exact (.cons ((hG.prods.ext0 ((hbr58.trans0 hXl231).trans0 (by first | exact (Ext.refl [] _).drew | exact Ext.refl [] _))).cellAt (((i - 1 + k) % S.ps.length) * 2 + 0) (by omega) (pcells_at S.ps ((i - 1 + k) % S.ps.length) 0 p hpi (by omega))) (.cons ((hG.prods.ext0 ((hbr58.trans0 hXl231).trans0 (by first | exact (Ext.refl [] _).drew | exact Ext.refl [] _))).cellAt (((i - 1 + k) % S.ps.length) * 2 + 1) (by omega) (pcells_at S.ps ((i - 1 + k) % S.ps.length) 1 p hpi (by omega))) .nil))
     ·refine (.cons ?eq237_11 (.cons ?eq237_12 (.cons ?eq237_14 .nil)))
      ·refine eff_at (wl231.drew) ((wl231.drew).alloc (.cells #[I6 p.l, p.rv] 73)) (by kernel_rfl) (by kernel_rfl) ?_
       exact upon_new (nb := wl231.heap.size) (cs := #[I6 p.l, p.rv]) (T := 73) (v := Value.slice (some ⟨wl231.heap.size, 0, none⟩) 1 1) (d := (some 65)) (by kernel_rfl) (by first | rfl | simp [upd_size]) ⟨by kernel_rfl, by kernel_rfl⟩
      ·refine eff_at ((wl231.drew).alloc (.cells #[I6 p.l, p.rv] 73)) (wa236) (by kernel_rfl) (by kernel_rfl) ?_
       exact upon_run (s := vS (Builtin.append_ #[24, 24] 24 #[Value.slice bs m cq, Value.slice (some ⟨wl231.heap.size, 0, none⟩) 1 1])) (d := (some 66)) (v := Value.slice (some ⟨ga236, 0, none⟩) (m + 1) ca236) (by kernel_rfl) (vS_run hra236) ⟨by kernel_rfl, by kernel_rfl⟩
      ·refine eff_at (wa236) (upd (wa236) (w41.heap.size) 26 #[S.lv, S.nv, I6 S.st, .slice (some ⟨ga236, 0, none⟩) (m + 1) ca236]) (by kernel_rfl) (by kernel_rfl) ?_
       exact upon_store (b := w41.heap.size) (off := 3) (vs := [.slice (some ⟨ga236, 0, none⟩) (m + 1) ca236]) (by kernel_rfl) ((((hb11.drew).alloc _ : Blk ((wl231.drew).alloc (.cells #[I6 p.l, p.rv] 73)) w41.heap.size 26 (#[S.lv, S.nv, I6 S.st, .slice bs m cq]))).ext hEa236 (OwnV.notin ((hR.own.drew).alloc _ : OwnV ((wl231.drew).alloc (.cells #[I6 p.l, p.rv] 73)) 73 2 (.slice bs m cq) m (pcells qs)) ((hb11.drew).alloc _ : Blk ((wl231.drew).alloc (.cells #[I6 p.l, p.rv] 73)) w41.heap.size 26 (#[S.lv, S.nv, I6 S.st, .slice bs m cq])) (by decide)) : Blk wa236 w41.heap.size 26 (#[S.lv, S.nv, I6 S.st, .slice bs m cq])) (by simp) ⟨by kernel_rfl, by kernel_rfl⟩
     rintro a w238 hS hw239
     replace hw239 : w238 = upd (wa236) (w41.heap.size) 26 #[S.lv, S.nv, I6 S.st, .slice (some ⟨ga236, 0, none⟩) (m + 1) ca236] := hw239.trans (by kernel_rfl)
     have hB242 : Blk w238 w41.heap.size 26 (#[S.lv, S.nv, I6 S.st, .slice (some ⟨ga236, 0, none⟩) (m + 1) ca236]) := by rw [hw239]; exact ((((hb11.drew).alloc _ : Blk ((wl231.drew).alloc (.cells #[I6 p.l, p.rv] 73)) w41.heap.size 26 (#[S.lv, S.nv, I6 S.st, .slice bs m cq]))).ext hEa236 (OwnV.notin ((hR.own.drew).alloc _ : OwnV ((wl231.drew).alloc (.cells #[I6 p.l, p.rv] 73)) 73 2 (.slice bs m cq) m (pcells qs)) ((hb11.drew).alloc _ : Blk ((wl231.drew).alloc (.cells #[I6 p.l, p.rv] 73)) w41.heap.size 26 (#[S.lv, S.nv, I6 S.st, .slice bs m cq])) (by decide))).upd _ _
     have hB243 : OwnR w238 73 2 ga236 ca236 (m + 1) ((pcells qs) ++ [I6 p.l, p.rv]) := by rw [hw239]; exact (hOa236).updNe ((OwnR.ne_type hOa236 ((((hb11.drew).alloc _ : Blk ((wl231.drew).alloc (.cells #[I6 p.l, p.rv] 73)) w41.heap.size 26 (#[S.lv, S.nv, I6 S.st, .slice bs m cq]))).ext hEa236 (OwnV.notin ((hR.own.drew).alloc _ : OwnV ((wl231.drew).alloc (.cells #[I6 p.l, p.rv] 73)) 73 2 (.slice bs m cq) m (pcells qs)) ((hb11.drew).alloc _ : Blk ((wl231.drew).alloc (.cells #[I6 p.l, p.rv] 73)) w41.heap.size 26 (#[S.lv, S.nv, I6 S.st, .slice bs m cq])) (by decide))) (by decide)).symm) _ _
     have hE244 : Ext [] w41 w238 := by rw [hw239]; exact (((hXl231.drew).alloc _).trans hEa236 (fun b hb => .inr (hR.new b hb))).updIn (.inr hn11) _ _
     replace hS := hS.kp [(2, vt), (3, (Pv w.heap.size)), (7, (Pv wtT.heap.size)), (10, I6 ↑S.ps.length), (11, (Pv w41.heap.size)), (12, I6 ↑k), (13, I6 (↑i - 1)), (51, .bool (decide (((↑i - 1) : Int) ≥ 0)))]
     refine inBlock_normal ?_
     refine hK235 _ _ ?_
     refine rgn 3 ?_
     refine sg wide_wide [.p, .as (I6 (↑(i - 1) - 1)), .p] [Value.int .i64 (IntKind.i64.wrap ((↑i - 1) - 1)) = I6 (↑(i - 1) - 1)] [(2, vt), (3, (Pv w.heap.size)), (7, (Pv wtT.heap.size)), (10, I6 ↑S.ps.length), (11, (Pv w41.heap.size)), (12, I6 ↑k), (13, I6 (↑(i - 1) - 1)), (51, .bool (decide (((↑i - 1) : Int) ≥ 0)))] 3 0 hS (.cons ((by rw [show ((↑i - 1) - 1 : Int) = (↑(i - 1) - 1) from by omega]; exact as_i64 (by omega))) .nil) fun a hS => ?_
     refine seg_end ?_
     have hRn : RowP w41.heap.size w238 (some ⟨ga236, 0, none⟩) (m + 1) ca236 (qs ++ [p]) := hR.grow hB243 (hXl231.trans0 (((Ext.refl [] _).drew).alloc _)).size hFa236
     exact ⟨((i - 1), (some ⟨ga236, 0, none⟩), (m + 1), ca236, (qs ++ [p])), ⟨hS.kp [(2, vt), (3, (Pv w.heap.size)), (7, (Pv wtT.heap.size)), (10, I6 ↑S.ps.length), (11, (Pv w41.heap.size)), (12, I6 ↑k), (13, I6 (↑(i - 1) - 1))], hE244, by omega, by omega, hRn, hB242, fun q hq => by
      rcases List.mem_append.1 hq with hq | hq
      ·exact hq1 q hq
      ·simp at hq; rw [hq]; exact hpm, fun t h1 h2 q hq => by
      rcases Nat.lt_or_ge (i - 1) t with h3 | h3
      ·exact List.mem_append_left _ (hq2 t (by omega) h2 q hq)
      ·have : t = i - 1 := by omega
       rw [this, hpi] at hq; cases hq; simp⟩, by simp only; omega⟩
    ·
     replace hb234 := of_decide_eq_false hb234
     have hi0 : i = 0 := by omega
     have hqa : ∀ p ∈ S.ps, p ∈ qs := fun p hp => by
      obtain ⟨j, hj⟩ := List.getElem?_of_mem hp
      obtain ⟨t, h1, h2⟩ := turn_cover hkl (List.getElem?_eq_some_iff.1 hj).1
      exact hq2 t (by omega) h1 p (by rw [h2]; exact hj)
     have hql := hR.len
     refine wpIn_exit ?_
     refine then_exit ?_
     refine then_exit ?_
     refine inBlock_hit ?_
     refine hK229 _ _ ?_
     refine sq fun K245 hK245 => ?_
     refine sq fun K246 hK246 => ?_
     refine rgn 1 ?_
     refine sg wide_wide [.p] [] [(2, vt), (3, (Pv w.heap.size)), (7, (Pv wtT.heap.size)), (10, I6 ↑S.ps.length), (11, (Pv w41.heap.size)), (12, I6 ↑k), (13, I6 (↑i - 1)), (51, .bool (decide (((↑i - 1) : Int) ≥ 0))), (14, I6 0)] 1 0 hS .nil fun a hS => ?_
     refine seg_end ?_
     refine hK246 _ _ ?_
     refine wpIn_block ?_
     refine loop_ghost (fun ((i, bs2, m2, cq2, qs2) : Nat × (Option Addr) × Nat × Nat × (List Pd)) a' w' => St 119 [] [(2, vt), (3, (Pv w.heap.size)), (7, (Pv wtT.heap.size)), (10, I6 ↑S.ps.length), (11, (Pv w41.heap.size)), (14, I6 ↑i)] a' ∧ Ext [] w41 w' ∧ i ≤ mt ∧ m2 ≤ 512 ∧ RowP w41.heap.size w' bs2 m2 cq2 qs2 ∧ Blk w' (w41.heap.size) 26 #[S.lv, S.nv, I6 S.st, .slice bs2 m2 cq2] ∧ (∀ q ∈ qs2, q ∈ S.ps) ∧ (∀ p ∈ S.ps, p ∈ qs2)) (fun ((i, bs2, m2, cq2, qs2) : Nat × (Option Addr) × Nat × Nat × (List Pd)) => mt - i) (0, bs, m, cq, qs) ⟨hS.keepTo [2, 3, 7, 10, 11, 14] (by kernel_rfl), hXl231, Nat.zero_le _, by omega, hR, hb11, hq1, hqa⟩ ?_
     rintro ⟨i, bs2, m2, cq2, qs2⟩ a wl247 ⟨hS, hXl247, hi2, hm2, hR2, hb112, hq12, hqa2⟩
     refine sq fun K248 hK248 => ?_
     refine sq fun K249 hK249 => ?_
     rcases (show (i < mt ∧ m2 < 512) ∨ (i < mt ∧ ¬m2 < 512) ∨ (¬i < mt) from by omega) with ⟨hc1, hc2⟩ | ⟨hc1, hc2⟩ | hc1
     ·
      obtain ⟨t, hti⟩ : ∃ t, ts[i]? = some t := ⟨_, List.getElem?_eq_getElem (by omega)⟩
      obtain ⟨r2, hr2⟩ : ∃ r2 : Int, r2 = t.tmod S.ps.length := ⟨_, rfl⟩
      have hrb2 := tmod_bd t (n := S.ps.length) (by omega)
      rw [← hr2] at hrb2
      refine rgn 10 ?_
      refine sg wide_wide [.p, .p, .run (I6 ↑mt), .as (.bool true), .p, .p, .ld (.slice bs2 m2 cq2), .p, .as (.bool true), .p] [Ru Tryd.prog (vS (Builtin.len_ #[51] 3 #[vt])) (I6 ↑mt) wl247, Value.bool (decide ((↑i : Int) < ↑mt)) = .bool true, wl247.cell? ⟨w41.heap.size, 3, none⟩ = some (.slice bs2 m2 cq2), Value.bool (decide ((↑m2 : Int) < 512)) = .bool true] [(2, vt), (3, (Pv w.heap.size)), (7, (Pv wtT.heap.size)), (10, I6 ↑S.ps.length), (11, (Pv w41.heap.size)), (14, I6 ↑i), (77, .bool true)] 10 0 hS (.cons (run_len_rd (e := 3) ht (by kernel_rfl)) (.cons (as_t (by omega)) (.cons (hb112.cell 3 rfl) (.cons (as_t (by omega)) .nil)))) fun a hS => ?_
      refine seg_end ?_
      refine hK249 _ _ ?_
      refine cond_t hS rfl ?_
      refine wpIn_skip ?_
      refine hK248 _ _ ?_
      refine sq fun K250 hK250 => ?_
      refine wpIn_block ?_
      refine sq fun K251 hK251 => ?_
      have hjj : (∃ j : Nat, r2 = j ∧ j < S.ps.length) ∨ (∃ j : Nat, r2 + S.ps.length = j ∧ j < S.ps.length ∧ r2 < 0) := by
       rcases Int.lt_or_le r2 0 with h | h
       ·exact .inr ⟨(r2 + S.ps.length).toNat, by omega, by omega, h⟩
       ·exact .inl ⟨r2.toNat, by omega, by omega⟩
      rcases (show (∃ j : Nat, r2 = j ∧ j < S.ps.length) ∨ (∃ j : Nat, r2 + S.ps.length = j ∧ j < S.ps.length ∧ r2 < 0) from hjj) with ⟨j, hj, hjl⟩ | ⟨j, hj, hjl, hj0⟩
      ·
       obtain ⟨p, hpi⟩ : ∃ p, S.ps[j]? = some p := ⟨_, List.getElem?_eq_getElem hjl⟩
       have hpm := List.mem_of_getElem? hpi
       have hrm := hG.rmax p hpm
       have hql2 := hR2.len
       refine rgn 7 ?_
       refine sg wide_wide [.p, .p, .run ((Po (bof vt) (oof vt + i * 1))), .ld (I6 t), .p, .run (I6 ↑j), .p] [Ru Tryd.prog (vS (Instr.indexAt 51 (vt) (I6 ↑i))) ((Po (bof vt) (oof vt + i * 1))) wl247, wl247.cell? ⟨bof vt, oof vt + i * 1, none⟩ = some (I6 t), Ru Tryd.prog (vS (do eqGuard .rem 3 (.tmp 83) (.tmp 84) (I6 t) (I6 ↑S.ps.length); binOp .rem 3 (I6 t) (I6 ↑S.ps.length))) (I6 ↑j) wl247] [(2, vt), (3, (Pv w.heap.size)), (7, (Pv wtT.heap.size)), (10, I6 ↑S.ps.length), (11, (Pv w41.heap.size)), (14, I6 ↑i), (77, .bool true), (15, I6 ↑j)] 7 0 hS (.cons (ix_rd (e := 3) (j := i) ht (by kernel_rfl) (by kernel_rfl) rfl (by omega)) (.cons ((ht.ext0 (hbr58.trans0 hXl247)).cellAt (i * 1) (by omega) (its_at hti)) (.cons ((by have h := bin_rem (P := Tryd.prog) (w := wl247) (T := 3) (a := .tmp 83) (b := .tmp 84) (x := t) (y := (S.ps.length : Int)) (by omega); rw [← hr2, hj] at h; exact h)) .nil))) fun a hS => ?_
       refine seg_end ?_
       refine hK251 _ _ ?_
       refine sq fun K252 hK252 => ?_
       refine sq fun K253 hK253 => ?_
       refine rgn 2 ?_
       refine sg wide_wide [.p, .as (.bool false)] [Value.bool (decide ((↑j : Int) < 0)) = .bool false] [(2, vt), (3, (Pv w.heap.size)), (7, (Pv wtT.heap.size)), (10, I6 ↑S.ps.length), (11, (Pv w41.heap.size)), (14, I6 ↑i), (77, .bool true), (15, I6 ↑j), (87, .bool false)] 2 0 hS (.cons (as_f (by omega)) .nil) fun a hS => ?_
       refine seg_end ?_
       refine hK253 _ _ ?_
       refine cond_f hS rfl ?_
       refine wpIn_skip ?_
       refine hK252 _ _ ?_
       obtain ⟨ga254, ca254, wa254, hra254, hOa254, hEa254, hFa254⟩ := append_any (P := Tryd.prog) (w := (wl247.drew).alloc (.cells #[I6 p.l, p.rv] 73)) (t := 24) (ty := 24) (e := 73) (size := 2) (bytes := 32) (n := m2) (b := wl247.heap.size) (off := 0) (k := 1) (c := 1) (z := #[I6 0, .slice none 0 0]) (v := Value.slice bs2 m2 cq2) (xs := (pcells qs2)) (news := [I6 p.l, p.rv]) (by kernel_rfl) (by kernel_rfl) rfl (by decide) ((hR2.own.drew).alloc _ : OwnV ((wl247.drew).alloc (.cells #[I6 p.l, p.rv] 73)) 73 2 (.slice bs2 m2 cq2) m2 (pcells qs2)) (by simp) (fun j u hu => by rw [Nat.zero_add]; exact (Blk.new' _ _ _ (by first | rfl | simp [upd_size]) : Blk ((wl247.drew).alloc (.cells #[I6 p.l, p.rv] 73)) wl247.heap.size 73 (#[I6 p.l, p.rv])).cell j (by simpa using hu)) rfl (by omega) (by simp only [maxLen]; omega) (by omega)
       refine region_fn2 wide_wide [.q .p, .q (.ld (.slice bs2 m2 cq2)), .q .p, .q (.ld (S.pv)), .q .p, .q (.run ((Po (bof S.pv) (oof S.pv + j * 2)))), .q (.lds [I6 p.l, p.rv]), .e, .e, .q .p, .e] [0, 0, 0, 0, 0, 0, 0, 0, 1, 2, 2] [1, 1, 0, 0, 0, 0, 0, 0, 1, 2, 2] [0, 1, 0, 4, 0, 28, 60, 124, 255, 511, 1023] [7, 8, 10] 3 ([(2, vt), (3, (Pv w.heap.size)), (7, (Pv wtT.heap.size)), (10, I6 ↑S.ps.length), (11, (Pv w41.heap.size)), (14, I6 ↑i), (77, .bool true), (15, I6 ↑j), (87, .bool false), (91, (Po w41.heap.size 3)), (92, .slice bs2 m2 cq2), (93, (Po w.heap.size 3)), (94, S.pv), (95, I6 ↑j), (96, (Po (bof S.pv) (oof S.pv + j * 2))), (97, .agg #[I6 p.l, p.rv]), (98, .slice (some ⟨wl247.heap.size, 0, none⟩) 1 1), (99, .slice (some ⟨ga254, 0, none⟩) (m2 + 1) ca254), (100, (Po w41.heap.size 3))]) [wl247.drew, (wl247.drew).alloc (.cells #[I6 p.l, p.rv] 73), wa254, upd (wa254) (w41.heap.size) 26 #[S.lv, S.nv, I6 S.st, .slice (some ⟨ga254, 0, none⟩) (m2 + 1) ca254]] wl247.drew (fun w' => [(1, [w'.cell? ⟨w41.heap.size, 3, none⟩ = some (.slice bs2 m2 cq2)]), (3, [w'.cell? ⟨w.heap.size, 3, none⟩ = some (S.pv)]), (5, [Ru Tryd.prog (vS (Instr.indexAt 24 (S.pv) (I6 ↑j))) ((Po (bof S.pv) (oof S.pv + j * 2))) w']), (6, [w'.cell? ⟨bof S.pv, oof S.pv + j * 2, none⟩ = some (I6 p.l), w'.cell? ⟨bof S.pv, oof S.pv + j * 2 + 1, none⟩ = some (p.rv)])]) [2, 3, 7, 10, 11, 14, 77, 15, 87] [] hS (by kernel_rfl) (by kernel_rfl) (by kernel_rfl) (by kernel_rfl) (fun _ => by kernel_rfl) (by kernel_rfl) (by kernel_rfl) (by kernel_rfl) ?_ ?_ ?_
       ·intro e w' hw
        refine (.cons ?_ (.cons ?_ (.cons ?_ (.cons ?_ .nil))))
        ·intro h1 h2
         replace h1 : 0 ≤ e := h1
         replace h2 : e ≤ 1 := h2
         have he : e = 0 ∨ e = 1 := by omega
         rcases he with rfl | rfl
         ·obtain rfl : w' = wl247.drew := hw.trans (by kernel_rfl)
          exact (.cons ((hb112.drew : Blk wl247.drew w41.heap.size 26 (#[S.lv, S.nv, I6 S.st, .slice bs2 m2 cq2])).cell 3 rfl) .nil)
         ·obtain rfl : w' = (wl247.drew).alloc (.cells #[I6 p.l, p.rv] 73) := hw.trans (by kernel_rfl)
          exact (.cons (((hb112.drew).alloc _ : Blk ((wl247.drew).alloc (.cells #[I6 p.l, p.rv] 73)) w41.heap.size 26 (#[S.lv, S.nv, I6 S.st, .slice bs2 m2 cq2])).cell 3 rfl) .nil)
        ·intro h1 h2
         obtain rfl : e = 0 := Nat.le_antisymm h2 h1
         obtain rfl : w' = wl247.drew := hw.trans (by kernel_rfl)
         exact (.cons (((hB43.ext hXl247 (by simp)).drew : Blk wl247.drew w.heap.size 26 (#[S.lv, S.nv, I6 S.st, S.pv])).cell 3 rfl) .nil)
        ·exact fun _ _ => (.cons (ix_rd (e := 73) (j := j) hG.prods (by kernel_rfl) (by kernel_rfl) rfl (by omega)) .nil)
        ·intro h1 h2
         obtain rfl : e = 0 := Nat.le_antisymm h2 h1
         obtain rfl : w' = wl247.drew := hw.trans (by kernel_rfl)
         exact (.cons ((hG.prods.ext0 ((hbr58.trans0 hXl247).trans0 (by first | exact (Ext.refl [] _).drew | exact Ext.refl [] _))).cellAt (j * 2 + 0) (by omega) (pcells_at S.ps j 0 p hpi (by omega))) (.cons ((hG.prods.ext0 ((hbr58.trans0 hXl247).trans0 (by first | exact (Ext.refl [] _).drew | exact Ext.refl [] _))).cellAt (j * 2 + 1) (by omega) (pcells_at S.ps j 1 p hpi (by omega))) .nil))
       ·refine (.cons ?eq255_7 (.cons ?eq255_8 (.cons ?eq255_10 .nil)))
        ·refine eff_at (wl247.drew) ((wl247.drew).alloc (.cells #[I6 p.l, p.rv] 73)) (by kernel_rfl) (by kernel_rfl) ?_
         exact upon_new (nb := wl247.heap.size) (cs := #[I6 p.l, p.rv]) (T := 73) (v := Value.slice (some ⟨wl247.heap.size, 0, none⟩) 1 1) (d := (some 98)) (by kernel_rfl) (by first | rfl | simp [upd_size]) ⟨by kernel_rfl, by kernel_rfl⟩
        ·refine eff_at ((wl247.drew).alloc (.cells #[I6 p.l, p.rv] 73)) (wa254) (by kernel_rfl) (by kernel_rfl) ?_
         exact upon_run (s := vS (Builtin.append_ #[24, 24] 24 #[Value.slice bs2 m2 cq2, Value.slice (some ⟨wl247.heap.size, 0, none⟩) 1 1])) (d := (some 99)) (v := Value.slice (some ⟨ga254, 0, none⟩) (m2 + 1) ca254) (by kernel_rfl) (vS_run hra254) ⟨by kernel_rfl, by kernel_rfl⟩
        ·refine eff_at (wa254) (upd (wa254) (w41.heap.size) 26 #[S.lv, S.nv, I6 S.st, .slice (some ⟨ga254, 0, none⟩) (m2 + 1) ca254]) (by kernel_rfl) (by kernel_rfl) ?_
         exact upon_store (b := w41.heap.size) (off := 3) (vs := [.slice (some ⟨ga254, 0, none⟩) (m2 + 1) ca254]) (by kernel_rfl) ((((hb112.drew).alloc _ : Blk ((wl247.drew).alloc (.cells #[I6 p.l, p.rv] 73)) w41.heap.size 26 (#[S.lv, S.nv, I6 S.st, .slice bs2 m2 cq2]))).ext hEa254 (OwnV.notin ((hR2.own.drew).alloc _ : OwnV ((wl247.drew).alloc (.cells #[I6 p.l, p.rv] 73)) 73 2 (.slice bs2 m2 cq2) m2 (pcells qs2)) ((hb112.drew).alloc _ : Blk ((wl247.drew).alloc (.cells #[I6 p.l, p.rv] 73)) w41.heap.size 26 (#[S.lv, S.nv, I6 S.st, .slice bs2 m2 cq2])) (by decide)) : Blk wa254 w41.heap.size 26 (#[S.lv, S.nv, I6 S.st, .slice bs2 m2 cq2])) (by simp) ⟨by kernel_rfl, by kernel_rfl⟩
       rintro a w256 hS hw257
       replace hw257 : w256 = upd (wa254) (w41.heap.size) 26 #[S.lv, S.nv, I6 S.st, .slice (some ⟨ga254, 0, none⟩) (m2 + 1) ca254] := hw257.trans (by kernel_rfl)
       have hB260 : Blk w256 w41.heap.size 26 (#[S.lv, S.nv, I6 S.st, .slice (some ⟨ga254, 0, none⟩) (m2 + 1) ca254]) := by rw [hw257]; exact ((((hb112.drew).alloc _ : Blk ((wl247.drew).alloc (.cells #[I6 p.l, p.rv] 73)) w41.heap.size 26 (#[S.lv, S.nv, I6 S.st, .slice bs2 m2 cq2]))).ext hEa254 (OwnV.notin ((hR2.own.drew).alloc _ : OwnV ((wl247.drew).alloc (.cells #[I6 p.l, p.rv] 73)) 73 2 (.slice bs2 m2 cq2) m2 (pcells qs2)) ((hb112.drew).alloc _ : Blk ((wl247.drew).alloc (.cells #[I6 p.l, p.rv] 73)) w41.heap.size 26 (#[S.lv, S.nv, I6 S.st, .slice bs2 m2 cq2])) (by decide))).upd _ _
       have hB261 : OwnR w256 73 2 ga254 ca254 (m2 + 1) ((pcells qs2) ++ [I6 p.l, p.rv]) := by rw [hw257]; exact (hOa254).updNe ((OwnR.ne_type hOa254 ((((hb112.drew).alloc _ : Blk ((wl247.drew).alloc (.cells #[I6 p.l, p.rv] 73)) w41.heap.size 26 (#[S.lv, S.nv, I6 S.st, .slice bs2 m2 cq2]))).ext hEa254 (OwnV.notin ((hR2.own.drew).alloc _ : OwnV ((wl247.drew).alloc (.cells #[I6 p.l, p.rv] 73)) 73 2 (.slice bs2 m2 cq2) m2 (pcells qs2)) ((hb112.drew).alloc _ : Blk ((wl247.drew).alloc (.cells #[I6 p.l, p.rv] 73)) w41.heap.size 26 (#[S.lv, S.nv, I6 S.st, .slice bs2 m2 cq2])) (by decide))) (by decide)).symm) _ _
       have hE262 : Ext [] w41 w256 := by rw [hw257]; exact (((hXl247.drew).alloc _).trans hEa254 (fun b hb => .inr (hR2.new b hb))).updIn (.inr hn11) _ _
       replace hS := hS.kp [(2, vt), (3, (Pv w.heap.size)), (7, (Pv wtT.heap.size)), (10, I6 ↑S.ps.length), (11, (Pv w41.heap.size)), (14, I6 ↑i), (77, .bool true), (15, I6 ↑j), (87, .bool false)]
       refine inBlock_normal ?_
       refine hK250 _ _ ?_
       refine rgn 3 ?_
       refine sg wide_wide [.p, .as (I6 (↑i + 1)), .p] [Value.int .i64 (IntKind.i64.wrap (↑i + 1)) = I6 (↑i + 1)] [(2, vt), (3, (Pv w.heap.size)), (7, (Pv wtT.heap.size)), (10, I6 ↑S.ps.length), (11, (Pv w41.heap.size)), (14, I6 (↑i + 1)), (77, .bool true), (15, I6 ↑j), (87, .bool false)] 3 0 hS (.cons (as_i64 (by omega)) .nil) fun a hS => ?_
       refine seg_end ?_
       have hRn : RowP w41.heap.size w256 (some ⟨ga254, 0, none⟩) (m2 + 1) ca254 (qs2 ++ [p]) := hR2.grow hB261 (hXl247.trans0 (((Ext.refl [] _).drew).alloc _)).size hFa254
       exact ⟨(i + 1, (some ⟨ga254, 0, none⟩), (m2 + 1), ca254, (qs2 ++ [p])), ⟨hS.kp [(2, vt), (3, (Pv w.heap.size)), (7, (Pv wtT.heap.size)), (10, I6 ↑S.ps.length), (11, (Pv w41.heap.size)), (14, I6 (↑i + 1))], hE262, by omega, by omega, hRn, hB260, fun q hq => by
        rcases List.mem_append.1 hq with hq | hq
        ·exact hq12 q hq
        ·simp at hq; rw [hq]; exact hpm, fun q hq => List.mem_append_left _ (hqa2 q hq)⟩, by simp only; omega⟩
      ·
       obtain ⟨p, hpi⟩ : ∃ p, S.ps[j]? = some p := ⟨_, List.getElem?_eq_getElem hjl⟩
       have hpm := List.mem_of_getElem? hpi
       have hrm := hG.rmax p hpm
       have hql2 := hR2.len
       refine rgn 7 ?_
       refine sg wide_wide [.p, .p, .run ((Po (bof vt) (oof vt + i * 1))), .ld (I6 t), .p, .run (I6 r2), .p] [Ru Tryd.prog (vS (Instr.indexAt 51 (vt) (I6 ↑i))) ((Po (bof vt) (oof vt + i * 1))) wl247, wl247.cell? ⟨bof vt, oof vt + i * 1, none⟩ = some (I6 t), Ru Tryd.prog (vS (do eqGuard .rem 3 (.tmp 83) (.tmp 84) (I6 t) (I6 ↑S.ps.length); binOp .rem 3 (I6 t) (I6 ↑S.ps.length))) (I6 r2) wl247] [(2, vt), (3, (Pv w.heap.size)), (7, (Pv wtT.heap.size)), (10, I6 ↑S.ps.length), (11, (Pv w41.heap.size)), (14, I6 ↑i), (77, .bool true), (15, I6 r2)] 7 0 hS (.cons (ix_rd (e := 3) (j := i) ht (by kernel_rfl) (by kernel_rfl) rfl (by omega)) (.cons ((ht.ext0 (hbr58.trans0 hXl247)).cellAt (i * 1) (by omega) (its_at hti)) (.cons ((by have h := bin_rem (P := Tryd.prog) (w := wl247) (T := 3) (a := .tmp 83) (b := .tmp 84) (x := t) (y := (S.ps.length : Int)) (by omega); rw [← hr2] at h; exact h)) .nil))) fun a hS => ?_
       refine seg_end ?_
       refine hK251 _ _ ?_
       refine sq fun K263 hK263 => ?_
       refine sq fun K264 hK264 => ?_
       refine rgn 2 ?_
       refine sg wide_wide [.p, .as (.bool true)] [Value.bool (decide ((r2 : Int) < 0)) = .bool true] [(2, vt), (3, (Pv w.heap.size)), (7, (Pv wtT.heap.size)), (10, I6 ↑S.ps.length), (11, (Pv w41.heap.size)), (14, I6 ↑i), (77, .bool true), (15, I6 r2), (87, .bool true)] 2 0 hS (.cons (as_t (by omega)) .nil) fun a hS => ?_
       refine seg_end ?_
       refine hK264 _ _ ?_
       refine cond_t hS rfl ?_
       refine rgn 4 ?_
       refine sg wide_wide [.p, .p, .as (I6 ↑j), .p] [Value.int .i64 (IntKind.i64.wrap (r2 + ↑S.ps.length)) = I6 ↑j] [(2, vt), (3, (Pv w.heap.size)), (7, (Pv wtT.heap.size)), (10, I6 ↑S.ps.length), (11, (Pv w41.heap.size)), (14, I6 ↑i), (77, .bool true), (15, I6 ↑j), (87, .bool true)] 4 0 hS (.cons ((by rw [show (r2 + ↑S.ps.length : Int) = ↑j from by omega]; exact as_i64 (by omega))) .nil) fun a hS => ?_
       refine seg_end ?_
       refine hK263 _ _ ?_
       obtain ⟨ga265, ca265, wa265, hra265, hOa265, hEa265, hFa265⟩ := append_any (P := Tryd.prog) (w := (wl247.drew).alloc (.cells #[I6 p.l, p.rv] 73)) (t := 24) (ty := 24) (e := 73) (size := 2) (bytes := 32) (n := m2) (b := wl247.heap.size) (off := 0) (k := 1) (c := 1) (z := #[I6 0, .slice none 0 0]) (v := Value.slice bs2 m2 cq2) (xs := (pcells qs2)) (news := [I6 p.l, p.rv]) (by kernel_rfl) (by kernel_rfl) rfl (by decide) ((hR2.own.drew).alloc _ : OwnV ((wl247.drew).alloc (.cells #[I6 p.l, p.rv] 73)) 73 2 (.slice bs2 m2 cq2) m2 (pcells qs2)) (by simp) (fun j u hu => by rw [Nat.zero_add]; exact (Blk.new' _ _ _ (by first | rfl | simp [upd_size]) : Blk ((wl247.drew).alloc (.cells #[I6 p.l, p.rv] 73)) wl247.heap.size 73 (#[I6 p.l, p.rv])).cell j (by simpa using hu)) rfl (by omega) (by simp only [maxLen]; omega) (by omega)
       refine region_fn2 wide_wide [.q .p, .q (.ld (.slice bs2 m2 cq2)), .q .p, .q (.ld (S.pv)), .q .p, .q (.run ((Po (bof S.pv) (oof S.pv + j * 2)))), .q (.lds [I6 p.l, p.rv]), .e, .e, .q .p, .e] [0, 0, 0, 0, 0, 0, 0, 0, 1, 2, 2] [1, 1, 0, 0, 0, 0, 0, 0, 1, 2, 2] [0, 1, 0, 4, 0, 28, 60, 124, 255, 511, 1023] [7, 8, 10] 3 ([(2, vt), (3, (Pv w.heap.size)), (7, (Pv wtT.heap.size)), (10, I6 ↑S.ps.length), (11, (Pv w41.heap.size)), (14, I6 ↑i), (77, .bool true), (15, I6 ↑j), (87, .bool true), (91, (Po w41.heap.size 3)), (92, .slice bs2 m2 cq2), (93, (Po w.heap.size 3)), (94, S.pv), (95, I6 ↑j), (96, (Po (bof S.pv) (oof S.pv + j * 2))), (97, .agg #[I6 p.l, p.rv]), (98, .slice (some ⟨wl247.heap.size, 0, none⟩) 1 1), (99, .slice (some ⟨ga265, 0, none⟩) (m2 + 1) ca265), (100, (Po w41.heap.size 3))]) [wl247.drew, (wl247.drew).alloc (.cells #[I6 p.l, p.rv] 73), wa265, upd (wa265) (w41.heap.size) 26 #[S.lv, S.nv, I6 S.st, .slice (some ⟨ga265, 0, none⟩) (m2 + 1) ca265]] wl247.drew (fun w' => [(1, [w'.cell? ⟨w41.heap.size, 3, none⟩ = some (.slice bs2 m2 cq2)]), (3, [w'.cell? ⟨w.heap.size, 3, none⟩ = some (S.pv)]), (5, [Ru Tryd.prog (vS (Instr.indexAt 24 (S.pv) (I6 ↑j))) ((Po (bof S.pv) (oof S.pv + j * 2))) w']), (6, [w'.cell? ⟨bof S.pv, oof S.pv + j * 2, none⟩ = some (I6 p.l), w'.cell? ⟨bof S.pv, oof S.pv + j * 2 + 1, none⟩ = some (p.rv)])]) [2, 3, 7, 10, 11, 14, 77, 15, 87] [] hS (by kernel_rfl) (by kernel_rfl) (by kernel_rfl) (by kernel_rfl) (fun _ => by kernel_rfl) (by kernel_rfl) (by kernel_rfl) (by kernel_rfl) ?_ ?_ ?_
       ·intro e w' hw
        refine (.cons ?_ (.cons ?_ (.cons ?_ (.cons ?_ .nil))))
        ·intro h1 h2
         replace h1 : 0 ≤ e := h1
         replace h2 : e ≤ 1 := h2
         have he : e = 0 ∨ e = 1 := by omega
         rcases he with rfl | rfl
         ·obtain rfl : w' = wl247.drew := hw.trans (by kernel_rfl)
          exact (.cons ((hb112.drew : Blk wl247.drew w41.heap.size 26 (#[S.lv, S.nv, I6 S.st, .slice bs2 m2 cq2])).cell 3 rfl) .nil)
         ·obtain rfl : w' = (wl247.drew).alloc (.cells #[I6 p.l, p.rv] 73) := hw.trans (by kernel_rfl)
          exact (.cons (((hb112.drew).alloc _ : Blk ((wl247.drew).alloc (.cells #[I6 p.l, p.rv] 73)) w41.heap.size 26 (#[S.lv, S.nv, I6 S.st, .slice bs2 m2 cq2])).cell 3 rfl) .nil)
        ·intro h1 h2
         obtain rfl : e = 0 := Nat.le_antisymm h2 h1
         obtain rfl : w' = wl247.drew := hw.trans (by kernel_rfl)
         exact (.cons (((hB43.ext hXl247 (by simp)).drew : Blk wl247.drew w.heap.size 26 (#[S.lv, S.nv, I6 S.st, S.pv])).cell 3 rfl) .nil)
        ·exact fun _ _ => (.cons (ix_rd (e := 73) (j := j) hG.prods (by kernel_rfl) (by kernel_rfl) rfl (by omega)) .nil)
        ·intro h1 h2
         obtain rfl : e = 0 := Nat.le_antisymm h2 h1
         obtain rfl : w' = wl247.drew := hw.trans (by kernel_rfl)
         exact (.cons ((hG.prods.ext0 ((hbr58.trans0 hXl247).trans0 (by first | exact (Ext.refl [] _).drew | exact Ext.refl [] _))).cellAt (j * 2 + 0) (by omega) (pcells_at S.ps j 0 p hpi (by omega))) (.cons ((hG.prods.ext0 ((hbr58.trans0 hXl247).trans0 (by first | exact (Ext.refl [] _).drew | exact Ext.refl [] _))).cellAt (j * 2 + 1) (by omega) (pcells_at S.ps j 1 p hpi (by omega))) .nil))
       ·refine (.cons ?eq266_7 (.cons ?eq266_8 (.cons ?eq266_10 .nil)))
        ·refine eff_at (wl247.drew) ((wl247.drew).alloc (.cells #[I6 p.l, p.rv] 73)) (by kernel_rfl) (by kernel_rfl) ?_
         exact upon_new (nb := wl247.heap.size) (cs := #[I6 p.l, p.rv]) (T := 73) (v := Value.slice (some ⟨wl247.heap.size, 0, none⟩) 1 1) (d := (some 98)) (by kernel_rfl) (by first | rfl | simp [upd_size]) ⟨by kernel_rfl, by kernel_rfl⟩
        ·refine eff_at ((wl247.drew).alloc (.cells #[I6 p.l, p.rv] 73)) (wa265) (by kernel_rfl) (by kernel_rfl) ?_
         exact upon_run (s := vS (Builtin.append_ #[24, 24] 24 #[Value.slice bs2 m2 cq2, Value.slice (some ⟨wl247.heap.size, 0, none⟩) 1 1])) (d := (some 99)) (v := Value.slice (some ⟨ga265, 0, none⟩) (m2 + 1) ca265) (by kernel_rfl) (vS_run hra265) ⟨by kernel_rfl, by kernel_rfl⟩
        ·refine eff_at (wa265) (upd (wa265) (w41.heap.size) 26 #[S.lv, S.nv, I6 S.st, .slice (some ⟨ga265, 0, none⟩) (m2 + 1) ca265]) (by kernel_rfl) (by kernel_rfl) ?_
         exact upon_store (b := w41.heap.size) (off := 3) (vs := [.slice (some ⟨ga265, 0, none⟩) (m2 + 1) ca265]) (by kernel_rfl) ((((hb112.drew).alloc _ : Blk ((wl247.drew).alloc (.cells #[I6 p.l, p.rv] 73)) w41.heap.size 26 (#[S.lv, S.nv, I6 S.st, .slice bs2 m2 cq2]))).ext hEa265 (OwnV.notin ((hR2.own.drew).alloc _ : OwnV ((wl247.drew).alloc (.cells #[I6 p.l, p.rv] 73)) 73 2 (.slice bs2 m2 cq2) m2 (pcells qs2)) ((hb112.drew).alloc _ : Blk ((wl247.drew).alloc (.cells #[I6 p.l, p.rv] 73)) w41.heap.size 26 (#[S.lv, S.nv, I6 S.st, .slice bs2 m2 cq2])) (by decide)) : Blk wa265 w41.heap.size 26 (#[S.lv, S.nv, I6 S.st, .slice bs2 m2 cq2])) (by simp) ⟨by kernel_rfl, by kernel_rfl⟩
       rintro a w267 hS hw268
       replace hw268 : w267 = upd (wa265) (w41.heap.size) 26 #[S.lv, S.nv, I6 S.st, .slice (some ⟨ga265, 0, none⟩) (m2 + 1) ca265] := hw268.trans (by kernel_rfl)
       have hB271 : Blk w267 w41.heap.size 26 (#[S.lv, S.nv, I6 S.st, .slice (some ⟨ga265, 0, none⟩) (m2 + 1) ca265]) := by rw [hw268]; exact ((((hb112.drew).alloc _ : Blk ((wl247.drew).alloc (.cells #[I6 p.l, p.rv] 73)) w41.heap.size 26 (#[S.lv, S.nv, I6 S.st, .slice bs2 m2 cq2]))).ext hEa265 (OwnV.notin ((hR2.own.drew).alloc _ : OwnV ((wl247.drew).alloc (.cells #[I6 p.l, p.rv] 73)) 73 2 (.slice bs2 m2 cq2) m2 (pcells qs2)) ((hb112.drew).alloc _ : Blk ((wl247.drew).alloc (.cells #[I6 p.l, p.rv] 73)) w41.heap.size 26 (#[S.lv, S.nv, I6 S.st, .slice bs2 m2 cq2])) (by decide))).upd _ _
       have hB272 : OwnR w267 73 2 ga265 ca265 (m2 + 1) ((pcells qs2) ++ [I6 p.l, p.rv]) := by rw [hw268]; exact (hOa265).updNe ((OwnR.ne_type hOa265 ((((hb112.drew).alloc _ : Blk ((wl247.drew).alloc (.cells #[I6 p.l, p.rv] 73)) w41.heap.size 26 (#[S.lv, S.nv, I6 S.st, .slice bs2 m2 cq2]))).ext hEa265 (OwnV.notin ((hR2.own.drew).alloc _ : OwnV ((wl247.drew).alloc (.cells #[I6 p.l, p.rv] 73)) 73 2 (.slice bs2 m2 cq2) m2 (pcells qs2)) ((hb112.drew).alloc _ : Blk ((wl247.drew).alloc (.cells #[I6 p.l, p.rv] 73)) w41.heap.size 26 (#[S.lv, S.nv, I6 S.st, .slice bs2 m2 cq2])) (by decide))) (by decide)).symm) _ _
       have hE273 : Ext [] w41 w267 := by rw [hw268]; exact (((hXl247.drew).alloc _).trans hEa265 (fun b hb => .inr (hR2.new b hb))).updIn (.inr hn11) _ _
       replace hS := hS.kp [(2, vt), (3, (Pv w.heap.size)), (7, (Pv wtT.heap.size)), (10, I6 ↑S.ps.length), (11, (Pv w41.heap.size)), (14, I6 ↑i), (77, .bool true), (15, I6 ↑j), (87, .bool true)]
       refine inBlock_normal ?_
       refine hK250 _ _ ?_
       refine rgn 3 ?_
       refine sg wide_wide [.p, .as (I6 (↑i + 1)), .p] [Value.int .i64 (IntKind.i64.wrap (↑i + 1)) = I6 (↑i + 1)] [(2, vt), (3, (Pv w.heap.size)), (7, (Pv wtT.heap.size)), (10, I6 ↑S.ps.length), (11, (Pv w41.heap.size)), (14, I6 (↑i + 1)), (77, .bool true), (15, I6 ↑j), (87, .bool true)] 3 0 hS (.cons (as_i64 (by omega)) .nil) fun a hS => ?_
       refine seg_end ?_
       have hRn : RowP w41.heap.size w267 (some ⟨ga265, 0, none⟩) (m2 + 1) ca265 (qs2 ++ [p]) := hR2.grow hB272 (hXl247.trans0 (((Ext.refl [] _).drew).alloc _)).size hFa265
       exact ⟨(i + 1, (some ⟨ga265, 0, none⟩), (m2 + 1), ca265, (qs2 ++ [p])), ⟨hS.kp [(2, vt), (3, (Pv w.heap.size)), (7, (Pv wtT.heap.size)), (10, I6 ↑S.ps.length), (11, (Pv w41.heap.size)), (14, I6 (↑i + 1))], hE273, by omega, by omega, hRn, hB271, fun q hq => by
        rcases List.mem_append.1 hq with hq | hq
        ·exact hq12 q hq
        ·simp at hq; rw [hq]; exact hpm, fun q hq => List.mem_append_left _ (hqa2 q hq)⟩, by simp only; omega⟩
     ·
      refine rgn 10 ?_
      refine sg wide_wide [.p, .p, .run (I6 ↑mt), .as (.bool true), .p, .p, .ld (.slice bs2 m2 cq2), .p, .as (.bool false), .p] [Ru Tryd.prog (vS (Builtin.len_ #[51] 3 #[vt])) (I6 ↑mt) wl247, Value.bool (decide ((↑i : Int) < ↑mt)) = .bool true, wl247.cell? ⟨w41.heap.size, 3, none⟩ = some (.slice bs2 m2 cq2), Value.bool (decide ((↑m2 : Int) < 512)) = .bool false] [(2, vt), (3, (Pv w.heap.size)), (7, (Pv wtT.heap.size)), (10, I6 ↑S.ps.length), (11, (Pv w41.heap.size)), (14, I6 ↑i), (77, .bool false)] 10 0 hS (.cons (run_len_rd (e := 3) ht (by kernel_rfl)) (.cons (as_t (by omega)) (.cons (hb112.cell 3 rfl) (.cons (as_f (by omega)) .nil)))) fun a hS => ?_
      refine seg_end ?_
      refine hK249 _ _ ?_
      refine cond_f hS rfl ?_
      refine wpIn_exit ?_
      refine then_exit ?_
      refine then_exit ?_
      refine inBlock_hit ?_
      refine hK245 _ _ ?_
      refine sq fun K274 hK274 => ?_
      have hql2 := hR2.len
      have hG2 := with_ok hG (hbr58.trans0 hXl247) hR2 hq12 (by omega)
      have hok2 := hok.with (pa := bs2) (pc := cq2) hq12 hqa2 (by omega)
      have hgg := with_g (pa := bs2) (pc := cq2) hq12 hqa2
      have hT2 := hT.ext0 (hbr58.trans0 hXl247)
      refine rgn 10 ?_
      refine sg wide_wide [.lds [S.lv, S.nv, I6 S.st, .slice bs2 m2 cq2]] [wl247.cell? ⟨w41.heap.size, 0, none⟩ = some (S.lv), wl247.cell? ⟨w41.heap.size, 1, none⟩ = some (S.nv), wl247.cell? ⟨w41.heap.size, 2, none⟩ = some (I6 S.st), wl247.cell? ⟨w41.heap.size, 3, none⟩ = some (.slice bs2 m2 cq2)] [(2, vt), (3, (Pv w.heap.size)), (7, (Pv wtT.heap.size)), (10, I6 ↑S.ps.length), (11, (Pv w41.heap.size)), (14, I6 ↑i), (77, .bool false), (102, .agg #[S.lv, S.nv, I6 S.st, .slice bs2 m2 cq2])] 1 9 hS (.cons (hb112.cell 0 rfl) (.cons (hb112.cell 1 rfl) (.cons (hb112.cell 2 rfl) (.cons (hb112.cell 3 rfl) .nil)))) fun a hS => ?_
      refine eff_call wide_wide (r := 8) (f := 27) (vs := [.agg #[S.lv, S.nv, I6 S.st, .slice bs2 m2 cq2]]) (cap := #[]) (d := (some 103)) hS (by kernel_rfl) Tryd.call27 #[.agg #[S.lv, S.nv, I6 S.st, .slice bs2 m2 cq2]] (by kernel_rfl) (told_S2 hG2 (Ext.refl [] _) hT2 hok2 hql2) ?_
      rintro _ wc275 ⟨T2275, rfl, hT2275, hEc275⟩
      refine ⟨_, rfl, fun a hS => ?_⟩
      have hB277 := (hB44.ext hXl247 (by simp)).ext hEc275 (by simp)
      have hE280 := hXl247.trans0 hEc275
      refine sg wide_wide [.p, .p, .p, .p] [] [(2, vt), (3, (Pv w.heap.size)), (7, (Pv wtT.heap.size)), (10, I6 ↑S.ps.length), (11, (Pv w41.heap.size)), (14, I6 ↑i), (77, .bool false), (104, .agg #[.slice (some ⟨T2275.eg, 0, none⟩) S.ns.length S.ns.length, .slice T2275.fb S.ns.length T2275.fc, .slice T2275.wb S.ns.length T2275.wc, .slice T2275.yb T2275.yn T2275.yc, .bool T2275.full]), (105, .bool true), (106, .bool true)] 6 4 hS .nil fun a hS => ?_
      refine eff_box wide_wide (r := 3) (cs := #[.slice none 0 0, .slice none 0 0, .slice none 0 0, .slice none 0 0, .bool false]) (T := 53) (d := (some 16)) hS (by kernel_rfl) fun a w281 hw282 hS => ?_
      have hn284 : wtT.heap.size ≠ wc275.heap.size := Nat.ne_of_lt hB277.lt
      have hB288 := Blk.at' hw282 (hB277.alloc _)
      have hX291 : Ext [] wc275 w281 := by rw [hw282]; exact (Ext.refl _ _).alloc _
      have hG292 : TdOk (S.with bs2 cq2 qs2) wl247.heap.size w281 T2275 := hT2275.ext0 hX291
      have hB293 : Blk w281 (wc275.heap.size) 53 #[.slice none 0 0, .slice none 0 0, .slice none 0 0, .slice none 0 0, .bool false] := by rw [hw282]; exact Blk.new _ _ _
      have hs294 : w41.heap.size ≤ wc275.heap.size := hE280.size
      have hE295 : Ext [] w41 w281 := by rw [hw282]; exact hE280.alloc _
      refine eff_store wide_wide (r := 2) (b := wc275.heap.size) (off := 0) (vs := [.slice (some ⟨T2275.eg, 0, none⟩) S.ns.length S.ns.length, .slice T2275.fb S.ns.length T2275.fc, .slice T2275.wb S.ns.length T2275.wc, .slice T2275.yb T2275.yn T2275.yc, .bool T2275.full]) hS (by kernel_rfl) hB293 (by simp) fun a w296 hw297 hS => ?_
      have hB299 := Blk.at' hw297 (hB288.updNe (Ne.symm hn284) _ _)
      have hB302 : Blk w296 wc275.heap.size 53 (#[.slice (some ⟨T2275.eg, 0, none⟩) S.ns.length S.ns.length, .slice T2275.fb S.ns.length T2275.fc, .slice T2275.wb S.ns.length T2275.wc, .slice T2275.yb T2275.yn T2275.yc, .bool T2275.full]) := by rw [hw297]; exact hB293.upd _ _
      have hX303 : Ext [wc275.heap.size] w281 w296 := by rw [hw297]; exact (Ext.refl _ _).updIn (.inl (by simp)) _ _
      have hG304 : TdOk (S.with bs2 cq2 qs2) wl247.heap.size w296 T2275 := hG292.extT hX303 hB293 (by decide) (by decide) (by decide)
      have hE305 : Ext [] w41 w296 := by rw [hw297]; exact hE295.updIn (.inr hs294) _ _
      refine sg wide_wide [.p, .p] [] [(2, vt), (3, (Pv w.heap.size)), (7, (Pv wtT.heap.size)), (10, I6 ↑S.ps.length), (11, (Pv w41.heap.size)), (14, I6 ↑i), (77, .bool false), (16, (Pv wc275.heap.size)), (17, .bool true), (18, .bool true)] 10 0 hS .nil fun a hS => ?_
      refine seg_end ?_
      refine hK274 _ _ ?_
      refine sq fun K306 hK306 => ?_
      refine rgn 13 ?_
      refine sg wide_wide [.p, .p, .p, .p, .p, .lds [.slice (some ⟨T.eg, 0, none⟩) S.ns.length S.ns.length, .slice T.fb S.ns.length T.fc, .slice T.wb S.ns.length T.wc, .slice T.yb T.yn T.yc, .bool T.full], .lds [.slice (some ⟨T2275.eg, 0, none⟩) S.ns.length S.ns.length, .slice T2275.fb S.ns.length T2275.fc, .slice T2275.wb S.ns.length T2275.wc, .slice T2275.yb T2275.yn T2275.yc, .bool T2275.full]] [w296.cell? ⟨wtT.heap.size, 0, none⟩ = some (.slice (some ⟨T.eg, 0, none⟩) S.ns.length S.ns.length), w296.cell? ⟨wtT.heap.size, 1, none⟩ = some (.slice T.fb S.ns.length T.fc), w296.cell? ⟨wtT.heap.size, 2, none⟩ = some (.slice T.wb S.ns.length T.wc), w296.cell? ⟨wtT.heap.size, 3, none⟩ = some (.slice T.yb T.yn T.yc), w296.cell? ⟨wtT.heap.size, 4, none⟩ = some (.bool T.full), w296.cell? ⟨wc275.heap.size, 0, none⟩ = some (.slice (some ⟨T2275.eg, 0, none⟩) S.ns.length S.ns.length), w296.cell? ⟨wc275.heap.size, 1, none⟩ = some (.slice T2275.fb S.ns.length T2275.fc), w296.cell? ⟨wc275.heap.size, 2, none⟩ = some (.slice T2275.wb S.ns.length T2275.wc), w296.cell? ⟨wc275.heap.size, 3, none⟩ = some (.slice T2275.yb T2275.yn T2275.yc), w296.cell? ⟨wc275.heap.size, 4, none⟩ = some (.bool T2275.full)] [(2, vt), (3, (Pv w.heap.size)), (7, (Pv wtT.heap.size)), (10, I6 ↑S.ps.length), (11, (Pv w41.heap.size)), (14, I6 ↑i), (77, .bool false), (16, (Pv wc275.heap.size)), (17, .bool true), (18, .bool true), (111, .bool true), (112, .agg #[.slice (some ⟨T.eg, 0, none⟩) S.ns.length S.ns.length, .slice T.fb S.ns.length T.fc, .slice T.wb S.ns.length T.wc, .slice T.yb T.yn T.yc, .bool T.full]), (113, .agg #[.slice (some ⟨T2275.eg, 0, none⟩) S.ns.length S.ns.length, .slice T2275.fb S.ns.length T2275.fc, .slice T2275.wb S.ns.length T2275.wc, .slice T2275.yb T2275.yn T2275.yc, .bool T2275.full])] 7 6 hS (.cons (hB299.cell 0 rfl) (.cons (hB299.cell 1 rfl) (.cons (hB299.cell 2 rfl) (.cons (hB299.cell 3 rfl) (.cons (hB299.cell 4 rfl) (.cons (hB302.cell 0 rfl) (.cons (hB302.cell 1 rfl) (.cons (hB302.cell 2 rfl) (.cons (hB302.cell 3 rfl) (.cons (hB302.cell 4 rfl) .nil)))))))))) fun a hS => ?_
      refine eff_call wide_wide (r := 5) (f := 32) (vs := [.agg #[.slice (some ⟨T.eg, 0, none⟩) S.ns.length S.ns.length, .slice T.fb S.ns.length T.fc, .slice T.wb S.ns.length T.wc, .slice T.yb T.yn T.yc, .bool T.full], .agg #[.slice (some ⟨T2275.eg, 0, none⟩) S.ns.length S.ns.length, .slice T2275.fb S.ns.length T2275.fc, .slice T2275.wb S.ns.length T2275.wc, .slice T2275.yb T2275.yn T2275.yc, .bool T2275.full]]) (cap := #[]) (d := (some 114)) hS (by kernel_rfl) Tryd.call32 #[.agg #[.slice (some ⟨T.eg, 0, none⟩) S.ns.length S.ns.length, .slice T.fb S.ns.length T.fc, .slice T.wb S.ns.length T.wc, .slice T.yb T.yn T.yc, .bool T.full], .agg #[.slice (some ⟨T2275.eg, 0, none⟩) S.ns.length S.ns.length, .slice T2275.fb S.ns.length T2275.fc, .slice T2275.wb S.ns.length T2275.wc, .slice T2275.yb T2275.yn T2275.yc, .bool T2275.full]] (by kernel_rfl) (sameTold_T (S' := S.with bs2 cq2 qs2) hgg rfl rfl rfl (hG46.ext0 hE305) hG304 hnmax) ?_
      rintro _ wc307 ⟨rfl, hEc307⟩
      refine ⟨_, rfl, fun a hS => ?_⟩
      have hG313 : TdOk (S.with bs2 cq2 qs2) wl247.heap.size wc307 T2275 := hG304.ext0 hEc307
      have hE314 := hE305.trans0 hEc307
      refine sg wide_wide [.p, .p] [] [(2, vt), (3, (Pv w.heap.size)), (7, (Pv wtT.heap.size)), (10, I6 ↑S.ps.length), (11, (Pv w41.heap.size)), (14, I6 ↑i), (77, .bool false), (16, (Pv wc275.heap.size)), (17, .bool true), (18, .bool true), (116, .bool true)] 10 3 hS .nil fun a hS => ?_
      refine eff_call wide_wide (r := 2) (f := 12) (vs := []) (cap := #[]) (d := (some 117)) hS (by kernel_rfl) Tryd.call12 #[] (by kernel_rfl) (Head_any (hT.ext0 (hbr58.trans0 hE314))) ?_
      rintro _ wc315 ⟨rfl, hEc315⟩
      refine ⟨_, rfl, fun a hS => ?_⟩
      have hG321 : TdOk (S.with bs2 cq2 qs2) wl247.heap.size wc315 T2275 := hG313.ext0 hEc315
      have hE322 := hE314.trans0 hEc315
      refine sg wide_wide [.p, .p] [] [(2, vt), (3, (Pv w.heap.size)), (7, (Pv wtT.heap.size)), (10, I6 ↑S.ps.length), (11, (Pv w41.heap.size)), (14, I6 ↑i), (77, .bool false), (16, (Pv wc275.heap.size)), (17, .bool true), (18, .bool true), (6, .bool true)] 13 0 hS .nil fun a hS => ?_
      refine seg_end ?_
      refine hK306 _ _ ?_
      refine wpIn_ret ?_
      refine ret1 hS Tryd.results6 rfl ?_
      exact ⟨rfl, (hE47.trans0 hE322)⟩
     ·
      refine rgn 10 ?_
      refine sg wide_wide [.p, .p, .run (I6 ↑mt), .as (.bool false), .p, .no, .no, .no, .no, .p] [Ru Tryd.prog (vS (Builtin.len_ #[51] 3 #[vt])) (I6 ↑mt) wl247, Value.bool (decide ((↑i : Int) < ↑mt)) = .bool false] [(2, vt), (3, (Pv w.heap.size)), (7, (Pv wtT.heap.size)), (10, I6 ↑S.ps.length), (11, (Pv w41.heap.size)), (14, I6 ↑i), (77, .bool false)] 10 0 hS (.cons (run_len_rd (e := 3) ht (by kernel_rfl)) (.cons (as_f (by omega)) .nil)) fun a hS => ?_
      refine seg_end ?_
      refine hK249 _ _ ?_
      refine cond_f hS rfl ?_
      refine wpIn_exit ?_
      refine then_exit ?_
      refine then_exit ?_
      refine inBlock_hit ?_
      refine hK245 _ _ ?_
      refine sq fun K323 hK323 => ?_
      have hql2 := hR2.len
      have hG2 := with_ok hG (hbr58.trans0 hXl247) hR2 hq12 (by omega)
      have hok2 := hok.with (pa := bs2) (pc := cq2) hq12 hqa2 (by omega)
      have hgg := with_g (pa := bs2) (pc := cq2) hq12 hqa2
      have hT2 := hT.ext0 (hbr58.trans0 hXl247)
      refine rgn 10 ?_
      refine sg wide_wide [.lds [S.lv, S.nv, I6 S.st, .slice bs2 m2 cq2]] [wl247.cell? ⟨w41.heap.size, 0, none⟩ = some (S.lv), wl247.cell? ⟨w41.heap.size, 1, none⟩ = some (S.nv), wl247.cell? ⟨w41.heap.size, 2, none⟩ = some (I6 S.st), wl247.cell? ⟨w41.heap.size, 3, none⟩ = some (.slice bs2 m2 cq2)] [(2, vt), (3, (Pv w.heap.size)), (7, (Pv wtT.heap.size)), (10, I6 ↑S.ps.length), (11, (Pv w41.heap.size)), (14, I6 ↑i), (77, .bool false), (102, .agg #[S.lv, S.nv, I6 S.st, .slice bs2 m2 cq2])] 1 9 hS (.cons (hb112.cell 0 rfl) (.cons (hb112.cell 1 rfl) (.cons (hb112.cell 2 rfl) (.cons (hb112.cell 3 rfl) .nil)))) fun a hS => ?_
      refine eff_call wide_wide (r := 8) (f := 27) (vs := [.agg #[S.lv, S.nv, I6 S.st, .slice bs2 m2 cq2]]) (cap := #[]) (d := (some 103)) hS (by kernel_rfl) Tryd.call27 #[.agg #[S.lv, S.nv, I6 S.st, .slice bs2 m2 cq2]] (by kernel_rfl) (told_S2 hG2 (Ext.refl [] _) hT2 hok2 hql2) ?_
      rintro _ wc324 ⟨T2324, rfl, hT2324, hEc324⟩
      refine ⟨_, rfl, fun a hS => ?_⟩
      have hB326 := (hB44.ext hXl247 (by simp)).ext hEc324 (by simp)
      have hE329 := hXl247.trans0 hEc324
      refine sg wide_wide [.p, .p, .p, .p] [] [(2, vt), (3, (Pv w.heap.size)), (7, (Pv wtT.heap.size)), (10, I6 ↑S.ps.length), (11, (Pv w41.heap.size)), (14, I6 ↑i), (77, .bool false), (104, .agg #[.slice (some ⟨T2324.eg, 0, none⟩) S.ns.length S.ns.length, .slice T2324.fb S.ns.length T2324.fc, .slice T2324.wb S.ns.length T2324.wc, .slice T2324.yb T2324.yn T2324.yc, .bool T2324.full]), (105, .bool true), (106, .bool true)] 6 4 hS .nil fun a hS => ?_
      refine eff_box wide_wide (r := 3) (cs := #[.slice none 0 0, .slice none 0 0, .slice none 0 0, .slice none 0 0, .bool false]) (T := 53) (d := (some 16)) hS (by kernel_rfl) fun a w330 hw331 hS => ?_
      have hn333 : wtT.heap.size ≠ wc324.heap.size := Nat.ne_of_lt hB326.lt
      have hB337 := Blk.at' hw331 (hB326.alloc _)
      have hX340 : Ext [] wc324 w330 := by rw [hw331]; exact (Ext.refl _ _).alloc _
      have hG341 : TdOk (S.with bs2 cq2 qs2) wl247.heap.size w330 T2324 := hT2324.ext0 hX340
      have hB342 : Blk w330 (wc324.heap.size) 53 #[.slice none 0 0, .slice none 0 0, .slice none 0 0, .slice none 0 0, .bool false] := by rw [hw331]; exact Blk.new _ _ _
      have hs343 : w41.heap.size ≤ wc324.heap.size := hE329.size
      have hE344 : Ext [] w41 w330 := by rw [hw331]; exact hE329.alloc _
      refine eff_store wide_wide (r := 2) (b := wc324.heap.size) (off := 0) (vs := [.slice (some ⟨T2324.eg, 0, none⟩) S.ns.length S.ns.length, .slice T2324.fb S.ns.length T2324.fc, .slice T2324.wb S.ns.length T2324.wc, .slice T2324.yb T2324.yn T2324.yc, .bool T2324.full]) hS (by kernel_rfl) hB342 (by simp) fun a w345 hw346 hS => ?_
      have hB348 := Blk.at' hw346 (hB337.updNe (Ne.symm hn333) _ _)
      have hB351 : Blk w345 wc324.heap.size 53 (#[.slice (some ⟨T2324.eg, 0, none⟩) S.ns.length S.ns.length, .slice T2324.fb S.ns.length T2324.fc, .slice T2324.wb S.ns.length T2324.wc, .slice T2324.yb T2324.yn T2324.yc, .bool T2324.full]) := by rw [hw346]; exact hB342.upd _ _
      have hX352 : Ext [wc324.heap.size] w330 w345 := by rw [hw346]; exact (Ext.refl _ _).updIn (.inl (by simp)) _ _
      have hG353 : TdOk (S.with bs2 cq2 qs2) wl247.heap.size w345 T2324 := hG341.extT hX352 hB342 (by decide) (by decide) (by decide)
      have hE354 : Ext [] w41 w345 := by rw [hw346]; exact hE344.updIn (.inr hs343) _ _
      refine sg wide_wide [.p, .p] [] [(2, vt), (3, (Pv w.heap.size)), (7, (Pv wtT.heap.size)), (10, I6 ↑S.ps.length), (11, (Pv w41.heap.size)), (14, I6 ↑i), (77, .bool false), (16, (Pv wc324.heap.size)), (17, .bool true), (18, .bool true)] 10 0 hS .nil fun a hS => ?_
      refine seg_end ?_
      refine hK323 _ _ ?_
      refine sq fun K355 hK355 => ?_
      refine rgn 13 ?_
      refine sg wide_wide [.p, .p, .p, .p, .p, .lds [.slice (some ⟨T.eg, 0, none⟩) S.ns.length S.ns.length, .slice T.fb S.ns.length T.fc, .slice T.wb S.ns.length T.wc, .slice T.yb T.yn T.yc, .bool T.full], .lds [.slice (some ⟨T2324.eg, 0, none⟩) S.ns.length S.ns.length, .slice T2324.fb S.ns.length T2324.fc, .slice T2324.wb S.ns.length T2324.wc, .slice T2324.yb T2324.yn T2324.yc, .bool T2324.full]] [w345.cell? ⟨wtT.heap.size, 0, none⟩ = some (.slice (some ⟨T.eg, 0, none⟩) S.ns.length S.ns.length), w345.cell? ⟨wtT.heap.size, 1, none⟩ = some (.slice T.fb S.ns.length T.fc), w345.cell? ⟨wtT.heap.size, 2, none⟩ = some (.slice T.wb S.ns.length T.wc), w345.cell? ⟨wtT.heap.size, 3, none⟩ = some (.slice T.yb T.yn T.yc), w345.cell? ⟨wtT.heap.size, 4, none⟩ = some (.bool T.full), w345.cell? ⟨wc324.heap.size, 0, none⟩ = some (.slice (some ⟨T2324.eg, 0, none⟩) S.ns.length S.ns.length), w345.cell? ⟨wc324.heap.size, 1, none⟩ = some (.slice T2324.fb S.ns.length T2324.fc), w345.cell? ⟨wc324.heap.size, 2, none⟩ = some (.slice T2324.wb S.ns.length T2324.wc), w345.cell? ⟨wc324.heap.size, 3, none⟩ = some (.slice T2324.yb T2324.yn T2324.yc), w345.cell? ⟨wc324.heap.size, 4, none⟩ = some (.bool T2324.full)] [(2, vt), (3, (Pv w.heap.size)), (7, (Pv wtT.heap.size)), (10, I6 ↑S.ps.length), (11, (Pv w41.heap.size)), (14, I6 ↑i), (77, .bool false), (16, (Pv wc324.heap.size)), (17, .bool true), (18, .bool true), (111, .bool true), (112, .agg #[.slice (some ⟨T.eg, 0, none⟩) S.ns.length S.ns.length, .slice T.fb S.ns.length T.fc, .slice T.wb S.ns.length T.wc, .slice T.yb T.yn T.yc, .bool T.full]), (113, .agg #[.slice (some ⟨T2324.eg, 0, none⟩) S.ns.length S.ns.length, .slice T2324.fb S.ns.length T2324.fc, .slice T2324.wb S.ns.length T2324.wc, .slice T2324.yb T2324.yn T2324.yc, .bool T2324.full])] 7 6 hS (.cons (hB348.cell 0 rfl) (.cons (hB348.cell 1 rfl) (.cons (hB348.cell 2 rfl) (.cons (hB348.cell 3 rfl) (.cons (hB348.cell 4 rfl) (.cons (hB351.cell 0 rfl) (.cons (hB351.cell 1 rfl) (.cons (hB351.cell 2 rfl) (.cons (hB351.cell 3 rfl) (.cons (hB351.cell 4 rfl) .nil)))))))))) fun a hS => ?_
      refine eff_call wide_wide (r := 5) (f := 32) (vs := [.agg #[.slice (some ⟨T.eg, 0, none⟩) S.ns.length S.ns.length, .slice T.fb S.ns.length T.fc, .slice T.wb S.ns.length T.wc, .slice T.yb T.yn T.yc, .bool T.full], .agg #[.slice (some ⟨T2324.eg, 0, none⟩) S.ns.length S.ns.length, .slice T2324.fb S.ns.length T2324.fc, .slice T2324.wb S.ns.length T2324.wc, .slice T2324.yb T2324.yn T2324.yc, .bool T2324.full]]) (cap := #[]) (d := (some 114)) hS (by kernel_rfl) Tryd.call32 #[.agg #[.slice (some ⟨T.eg, 0, none⟩) S.ns.length S.ns.length, .slice T.fb S.ns.length T.fc, .slice T.wb S.ns.length T.wc, .slice T.yb T.yn T.yc, .bool T.full], .agg #[.slice (some ⟨T2324.eg, 0, none⟩) S.ns.length S.ns.length, .slice T2324.fb S.ns.length T2324.fc, .slice T2324.wb S.ns.length T2324.wc, .slice T2324.yb T2324.yn T2324.yc, .bool T2324.full]] (by kernel_rfl) (sameTold_T (S' := S.with bs2 cq2 qs2) hgg rfl rfl rfl (hG46.ext0 hE354) hG353 hnmax) ?_
      rintro _ wc356 ⟨rfl, hEc356⟩
      refine ⟨_, rfl, fun a hS => ?_⟩
      have hG362 : TdOk (S.with bs2 cq2 qs2) wl247.heap.size wc356 T2324 := hG353.ext0 hEc356
      have hE363 := hE354.trans0 hEc356
      refine sg wide_wide [.p, .p] [] [(2, vt), (3, (Pv w.heap.size)), (7, (Pv wtT.heap.size)), (10, I6 ↑S.ps.length), (11, (Pv w41.heap.size)), (14, I6 ↑i), (77, .bool false), (16, (Pv wc324.heap.size)), (17, .bool true), (18, .bool true), (116, .bool true)] 10 3 hS .nil fun a hS => ?_
      refine eff_call wide_wide (r := 2) (f := 12) (vs := []) (cap := #[]) (d := (some 117)) hS (by kernel_rfl) Tryd.call12 #[] (by kernel_rfl) (Head_any (hT.ext0 (hbr58.trans0 hE363))) ?_
      rintro _ wc364 ⟨rfl, hEc364⟩
      refine ⟨_, rfl, fun a hS => ?_⟩
      have hG370 : TdOk (S.with bs2 cq2 qs2) wl247.heap.size wc364 T2324 := hG362.ext0 hEc364
      have hE371 := hE363.trans0 hEc364
      refine sg wide_wide [.p, .p] [] [(2, vt), (3, (Pv w.heap.size)), (7, (Pv wtT.heap.size)), (10, I6 ↑S.ps.length), (11, (Pv w41.heap.size)), (14, I6 ↑i), (77, .bool false), (16, (Pv wc324.heap.size)), (17, .bool true), (18, .bool true), (6, .bool true)] 13 0 hS .nil fun a hS => ?_
      refine seg_end ?_
      refine hK355 _ _ ?_
      refine wpIn_ret ?_
      refine ret1 hS Tryd.results6 rfl ?_
      exact ⟨rfl, (hE47.trans0 hE371)⟩

end Go.Proofs.YtkkpghlcmcaoiaaDoor
