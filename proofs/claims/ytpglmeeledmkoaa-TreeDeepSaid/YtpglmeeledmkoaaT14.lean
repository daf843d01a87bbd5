import Derived.Test.YtpglmeeledmkoaaProg
import Derived.Test.YtpglmeeledmkoaaVc
import Derived.Test.YtpglmeeledmkoaaT13
namespace Go.Proofs.Ytpglmeeledmkoaa
open Go.Vc

set_option maxHeartbeats 4000000 in
theorem Deep_in (N : Nat) (w : World) (hN : 1 ≤ N ∧ N ≤ 1048576) :
    Calls Try.prog 8 #[.int .i64 ↑N] w fun e w' => e = .returned (.bool true) ∧ Ext [] w w' := by
  refine calls_bodyM 167 [(0, .int .i64 ↑N)] Try.func8 rfl (by kernel_rfl) (by kernel_rfl) (by kernel_rfl) fun a hS => ?_
  have hE0 : Ext [] w w := Ext.refl _ _
  refine wpIn_seq_k fun K1 hK1 => ?_
  refine region 1 (by kernel_rfl) ?_
  refine eff_box wide_wide (r := 0) (cs := #[.bool false]) (T := 4) (d := (some 2)) hS (by kernel_rfl) fun a w2 hw3 hS => ?_
  have hB4 : Blk w2 (w.heap.size) 4 #[.bool false] := by rw [hw3]; exact Blk.new _ _ _
  have hs5 : w.heap.size ≤ w.heap.size := hE0.size
  have hE6 : Ext [] w w2 := by rw [hw3]; exact hE0.alloc _
  refine seg_end ?_
  refine hK1 _ _ ?_
  refine wpIn_seq_k fun K7 hK7 => ?_
  refine wpIn_seq_k fun K8 hK8 => ?_
  refine region 10 (by kernel_rfl) ?_
  refine seg wide_wide [.p, .as (.bool false), .p, .p, .as (.bool false), .p, .p] [0, 2, 21] [Value.bool (decide ((↑N : Int) < 1)) = .bool false, Value.bool (decide ((↑N : Int) > 1048576)) = .bool false] [(0, .int .i64 ↑N), (2, .pointer (some ⟨w.heap.size, 0, none⟩)), (21, .bool false)] 7 3 hS (by kernel_rfl) (by kernel_rfl) (by kernel_rfl) (.cons (as_f (by omega)) (.cons (as_f (by omega)) .nil)) fun a hS => ?_
  refine eff_call wide_wide (r := 2) (f := 17) (vs := []) (cap := #[]) (d := (some 22)) hS (by kernel_rfl) Try.call17 #[] (by kernel_rfl) (Head_any w2) ?_
  rintro _ wh9 ⟨rfl, hx10⟩
  refine ⟨_, rfl, fun a hS => ?_⟩
  have hE11 := hE6.trans0 hx10
  have hB12 : Blk wh9 w.heap.size 4 (#[.bool false]) := hB4.ext hx10 (by simp)
  refine seg wide_wide [.p, .p] [0, 2, 24] [] [(0, .int .i64 ↑N), (2, .pointer (some ⟨w.heap.size, 0, none⟩)), (24, .bool false)] 10 0 hS (by kernel_rfl) (by kernel_rfl) (by kernel_rfl) .nil fun a hS => ?_
  refine seg_end ?_
  refine hK8 _ _ ?_
  refine cond_f hS rfl ?_
  refine wpIn_skip ?_
  refine hK7 _ _ ?_
  refine wpIn_seq_k fun K13 hK13 => ?_
  refine region 2 (by kernel_rfl) ?_
  refine eff_call wide_wide (r := 1) (f := 16) (vs := []) (cap := #[]) (d := (some 26)) hS (by kernel_rfl) Try.call16 #[] (by kernel_rfl) (New_any wh9) ?_
  rintro _ w1 ⟨rfl, hw14⟩
  refine ⟨_, rfl, fun a hS => ?_⟩
  have hEn : Ext [] wh9 w1 := by rw [hw14]; exact (Ext.refl _ _).alloc _
  have hBs : Blk w1 wh9.heap.size 102 #[.int .i64 0] := by rw [hw14]; exact Blk.new _ _ _
  have hnsb : w.heap.size ≤ wh9.heap.size := hE11.size
  have hE1 := hE11.trans0 hEn
  have hB15 : Blk w1 w.heap.size 4 (#[.bool false]) := hB12.ext hEn (by simp)
  generalize wh9.heap.size = sb at hS hBs hnsb
  refine seg wide_wide [.p] [0, 2, 24, 3] [] [(0, .int .i64 ↑N), (2, .pointer (some ⟨w.heap.size, 0, none⟩)), (24, .bool false), (3, .pointer (some ⟨sb, 0, none⟩))] 2 0 hS (by kernel_rfl) (by kernel_rfl) (by kernel_rfl) .nil fun a hS => ?_
  refine seg_end ?_
  refine hK13 _ _ ?_
  refine wpIn_seq_k fun K16 hK16 => ?_
  refine wpIn_seq_k fun K17 hK17 => ?_
  refine region 2 (by kernel_rfl) ?_
  refine seg wide_wide [.p, .p] [0, 2, 24, 3, 28] [] [(0, .int .i64 ↑N), (2, .pointer (some ⟨w.heap.size, 0, none⟩)), (24, .bool false), (3, .pointer (some ⟨sb, 0, none⟩)), (28, .bool false)] 2 0 hS (by kernel_rfl) (by kernel_rfl) (by kernel_rfl) .nil fun a hS => ?_
  refine seg_end ?_
  refine hK17 _ _ ?_
  refine cond_f hS rfl ?_
  refine wpIn_skip ?_
  refine hK16 _ _ ?_
  refine wpIn_seq_k fun K18 hK18 => ?_
  refine region 5 (by kernel_rfl) ?_
  refine seg wide_wide [.p, .p] [0, 2, 24, 3, 28, 29, 30] [] [(0, .int .i64 ↑N), (2, .pointer (some ⟨w.heap.size, 0, none⟩)), (24, .bool false), (3, .pointer (some ⟨sb, 0, none⟩)), (28, .bool false), (29, .pointer (some ⟨sb, 0, none⟩)), (30, .agg #[.int .i64 0, .int .i64 0, .int .i64 1, .int .i64 0])] 2 3 hS (by kernel_rfl) (by kernel_rfl) (by kernel_rfl) .nil fun a hS => ?_
  refine eff_call wide_wide (r := 2) (f := 18) (vs := [.pointer (some ⟨sb, 0, none⟩), .agg #[.int .i64 0, .int .i64 0, .int .i64 1, .int .i64 0]]) (cap := #[]) (d := (some 31)) hS (by kernel_rfl) Try.call18 #[.pointer (some ⟨sb, 0, none⟩), .agg #[.int .i64 0, .int .i64 0, .int .i64 1, .int .i64 0]] (by kernel_rfl) (Leaf_tr hBs (by omega)) ?_
  rintro _ w3 ⟨na, rfl, hna, hoka, hBs3, hE23⟩
  refine ⟨_, rfl, fun a hS => ?_⟩
  have hE3 : Ext [] w w3 := hE1.trans hE23 (fun b hb => by simp at hb; subst hb; exact .inr hnsb)
  have hrb3 := hB15.ext hE23 (by simpa using hB15.ne_type hBs (by decide))
  have hrbn0 : w.heap.size ≤ w.heap.size := hs5
  obtain ⟨rb, hrbe⟩ : ∃ rb, rb = w.heap.size := ⟨_, rfl⟩
  rw [← hrbe] at hS hrb3
  have hrbn : w.heap.size ≤ rb := by rw [hrbe]; exact hrbn0
  obtain ⟨ta, ha⟩ : ∃ ta, ta = leafT na (0 + 1) 0 0 1 0 := ⟨_, rfl⟩
  have hab : na = ta.b := by rw [ha]; rfl
  have hone : One ta := by rw [ha]; exact ⟨rfl, by show bt 0 + bt 1 = 1; decide, rfl, rfl, by show ((0 : Int) == -1) = false; decide, rfl⟩
  rw [← ha] at hoka
  clear ha
  subst hab
  have hE33 : Ext [] w3 w3 := Ext.refl _ _
  refine eff_box wide_wide (r := 1) (cs := #[.pointer none]) (T := 47) (d := (some 4)) hS (by kernel_rfl) fun a w19 hw20 hS => ?_
  have hn21 : sb ≠ w3.heap.size := Nat.ne_of_lt hBs3.lt
  have hn22 : rb ≠ w3.heap.size := Nat.ne_of_lt hrb3.lt
  have hB23 : Blk w19 sb 102 (#[.int .i64 (0 + 1)]) := by rw [hw20]; exact hBs3.alloc _
  have hB24 : Blk w19 rb 4 (#[.bool false]) := by rw [hw20]; exact hrb3.alloc _
  have hB25 : Blk w19 (w3.heap.size) 47 #[.pointer none] := by rw [hw20]; exact Blk.new _ _ _
  have hs26 : w3.heap.size ≤ w3.heap.size := hE33.size
  have hE27 : Ext [] w3 w19 := by rw [hw20]; exact hE33.alloc _
  refine eff_store wide_wide (r := 0) (b := w3.heap.size) (off := 0) (vs := [.pointer (some ⟨ta.b, 0, none⟩)]) hS (by kernel_rfl) hB25 (by simp) fun a w28 hw29 hS => ?_
  have hB30 : Blk w28 sb 102 (#[.int .i64 (0 + 1)]) := by rw [hw29]; exact hB23.updNe (Ne.symm hn21) _ _
  have hB31 : Blk w28 rb 4 (#[.bool false]) := by rw [hw29]; exact hB24.updNe (Ne.symm hn22) _ _
  have hB32 : Blk w28 w3.heap.size 47 (#[.pointer (some ⟨ta.b, 0, none⟩)]) := by rw [hw29]; exact hB25.upd _ _
  have hE33 : Ext [] w3 w28 := by rw [hw29]; exact hE27.updIn (.inr hs26) _ _
  refine seg_end ?_
  refine hK18 _ _ ?_
  refine wpIn_seq_k fun K34 hK34 => ?_
  refine region 2 (by kernel_rfl) ?_
  refine seg wide_wide [.ld (.pointer (some ⟨ta.b, 0, none⟩)), .p] [0, 2, 24, 3, 28, 4, 5] [w28.cell? ⟨w3.heap.size, 0, none⟩ = some (.pointer (some ⟨ta.b, 0, none⟩))] [(0, .int .i64 ↑N), (2, .pointer (some ⟨rb, 0, none⟩)), (24, .bool false), (3, .pointer (some ⟨sb, 0, none⟩)), (28, .bool false), (4, .pointer (some ⟨w3.heap.size, 0, none⟩)), (5, .pointer (some ⟨ta.b, 0, none⟩))] 2 0 hS (by kernel_rfl) (by kernel_rfl) (by kernel_rfl) (.cons (hB32.cell 0 rfl) .nil) fun a hS => ?_
  refine seg_end ?_
  refine hK34 _ _ ?_
  refine wpIn_seq_k fun K35 hK35 => ?_
  refine wpIn_seq_k fun K36 hK36 => ?_
  refine region 1 (by kernel_rfl) ?_
  refine seg wide_wide [.p] [0, 2, 24, 3, 28, 4, 5, 6] [] [(0, .int .i64 ↑N), (2, .pointer (some ⟨rb, 0, none⟩)), (24, .bool false), (3, .pointer (some ⟨sb, 0, none⟩)), (28, .bool false), (4, .pointer (some ⟨w3.heap.size, 0, none⟩)), (5, .pointer (some ⟨ta.b, 0, none⟩)), (6, .int .i64 0)] 1 0 hS (by kernel_rfl) (by kernel_rfl) (by kernel_rfl) .nil fun a hS => ?_
  refine seg_end ?_
  refine hK36 _ _ ?_
  refine wpIn_block ?_
  have hab0 := hB32
  have habn : w.heap.size ≤ w3.heap.size := Nat.le_trans hE3.size (hs26)
  generalize habe : w3.heap.size = ab at hS hab0 habn
  have haok0 := hoka.ext hE33 ta (by simp)
  have hE4 := hE3.trans0 hE33
  have hrb4 := hB31
  have hsb4 := hB30
  refine loop_ghost (fun ((i, x, c) : Nat × Tr × Int) a' w' => St 167 [] [(0, .int .i64 ↑N), (2, .pointer (some ⟨rb, 0, none⟩)), (3, .pointer (some ⟨sb, 0, none⟩)), (4, .pointer (some ⟨ab, 0, none⟩)), (5, .pointer (some ⟨x.b, 0, none⟩)), (6, .int .i64 ↑i)] a' ∧ x.Ok w' sb ∧ ta.Ok w' sb ∧ Chain ta i x ∧ Blk w' sb 102 #[.int .i64 c] ∧ Blk w' ab 47 #[pv ta.b] ∧ Blk w' rb 4 #[.bool false] ∧ Ext [] w w' ∧ i ≤ N ∧ (0 ≤ c ∧ c ≤ (i : Int) + 1)) (fun ((i, x, c) : Nat × Tr × Int) => N - i) (0, ta, 0 + 1) ⟨hS.keepTo [0, 2, 3, 4, 5, 6] (by kernel_rfl), haok0, haok0, rfl, hsb4, hab0, hrb4, hE4, Nat.zero_le _, by omega⟩ ?_
  rintro ⟨i, x, c⟩ a' w4 ⟨hS, hok, haok, hch, hsb, hab, hrb, hEx, hiN0, hc⟩
  obtain ⟨hxw, hxl, hxt, hxf⟩ := chain_num hone i x hch hok
  refine wpIn_seq_k fun K37 hK37 => ?_
  refine wpIn_seq_k fun K38 hK38 => ?_
  refine region 3 (by kernel_rfl) ?_
  refine seg wide_wide [.p, .p, .p] [0, 2, 3, 4, 5, 6, 35] [] [(0, .int .i64 ↑N), (2, .pointer (some ⟨rb, 0, none⟩)), (3, .pointer (some ⟨sb, 0, none⟩)), (4, .pointer (some ⟨ab, 0, none⟩)), (5, .pointer (some ⟨x.b, 0, none⟩)), (6, .int .i64 ↑i), (35, .bool (decide ((↑i : Int) < ↑N)))] 3 0 hS (by kernel_rfl) (by kernel_rfl) (by kernel_rfl) .nil fun a hS => ?_
  refine seg_end ?_
  refine hK38 _ _ ?_
  refine cond_b hS rfl (fun hb39 => ?_) (fun hb39 => ?_)
  · -- decide ((↑i : Int) < ↑N) is true
    replace hb39 := of_decide_eq_true hb39
    have hiN : i < N := by omega
    refine wpIn_skip ?_
    refine hK37 _ _ ?_
    refine wpIn_seq_k fun K40 hK40 => ?_
    refine wpIn_block ?_
    refine wpIn_seq_k fun K41 hK41 => ?_
    refine region 11 (by kernel_rfl) ?_
    refine seg wide_wide [.p, .p, .p, .ld (.pointer (some ⟨ta.b, 0, none⟩))] [0, 2, 3, 4, 5, 6, 39, 40, 41, 42] [w4.cell? ⟨ab, 0, none⟩ = some (.pointer (some ⟨ta.b, 0, none⟩))] [(0, .int .i64 ↑N), (2, .pointer (some ⟨rb, 0, none⟩)), (3, .pointer (some ⟨sb, 0, none⟩)), (4, .pointer (some ⟨ab, 0, none⟩)), (5, .pointer (some ⟨x.b, 0, none⟩)), (6, .int .i64 ↑i), (39, .pointer (some ⟨sb, 0, none⟩)), (40, .int .i64 ↑i), (41, .pointer (some ⟨x.b, 0, none⟩)), (42, .pointer (some ⟨ta.b, 0, none⟩))] 4 7 hS (by kernel_rfl) (by kernel_rfl) (by kernel_rfl) (.cons (hab.cell 0 rfl) .nil) fun a hS => ?_
    refine eff_new wide_wide (r := 6) (cs := #[.pointer (some ⟨x.b, 0, none⟩), .pointer (some ⟨ta.b, 0, none⟩)]) (T := 47) (v := Value.slice (some ⟨w4.heap.size, 0, none⟩) 2 2) (d := (some 43)) hS (by kernel_rfl) fun a w42 hw43 hS => ?_
    have hn44 : sb ≠ w4.heap.size := Nat.ne_of_lt hsb.lt
    have hn45 : ab ≠ w4.heap.size := Nat.ne_of_lt hab.lt
    have hn46 : rb ≠ w4.heap.size := Nat.ne_of_lt hrb.lt
    have hB47 : Blk w42 sb 102 (#[.int .i64 c]) := by rw [hw43]; exact hsb.alloc _
    have hB48 : Blk w42 ab 47 (#[.pointer (some ⟨ta.b, 0, none⟩)]) := by rw [hw43]; exact hab.alloc _
    have hB49 : Blk w42 rb 4 (#[.bool false]) := by rw [hw43]; exact hrb.alloc _
    have hX50 : Ext [] w4 w42 := by rw [hw43]; exact (Ext.refl _ _).alloc _
    have hG51 : x.Ok w42 sb := hok.ext hX50 _ (by simp)
    have hG52 : ta.Ok w42 sb := haok.ext hX50 _ (by simp)
    have hB53 : Blk w42 (w4.heap.size) 47 #[.pointer (some ⟨x.b, 0, none⟩), .pointer (some ⟨ta.b, 0, none⟩)] := by rw [hw43]; exact Blk.new _ _ _
    have hs54 : w.heap.size ≤ w4.heap.size := hEx.size
    have hE55 : Ext [] w w42 := by rw [hw43]; exact hEx.alloc _
    have hOv : OwnR w42 47 1 w4.heap.size 2 2 [x.ptr, ta.ptr] := OwnR.of_blk (cs := #[x.ptr, ta.ptr]) (n := 2) hB53 rfl (by decide)
    refine eff_call wide_wide (r := 5) (f := 20) (vs := [.pointer (some ⟨sb, 0, none⟩), .int .i64 2, .int .i64 ↑i, .slice (some ⟨w4.heap.size, 0, none⟩) 2 2]) (cap := #[]) (d := (some 44)) hS (by kernel_rfl) Try.call20 #[.pointer (some ⟨sb, 0, none⟩), .int .i64 2, .int .i64 ↑i, .slice (some ⟨w4.heap.size, 0, none⟩) 2 2] (by kernel_rfl) (Make_2 (n := ↑i) (ks := [(sb, x), (sb, ta)]) hB47 (by omega) (by omega) hOv.v (by intro q hq; simp at hq; rcases hq with rfl | rfl; exact ⟨hG51, _, hB47⟩; exact ⟨hG52, _, hB47⟩) (by simp)) ?_
    rintro _ w5 hmk
    rcases hmk with ⟨⟨q, hq, hne⟩, _⟩ | ⟨_, hgt, _⟩ | ⟨_, _, nb, vs5, rfl, hnb5, hvs5, hok5, hBs5, hX5⟩
    · simp at hq; rcases hq with rfl | rfl <;> exact absurd rfl hne
    · exact absurd hgt (by have := hone.tt; simp [kt, sumT]; omega)
    have hxb5 : nb = (Tr.node nb (c + 1) 2 ↑i 0 0 0 0 vs5 (sumW (kt [(sb, x), (sb, ta)])) (sumL (kt [(sb, x), (sb, ta)])) (1 + sumT (kt [(sb, x), (sb, ta)])) (((2 : Int) == 3 || (2 : Int) == 5) || anyF (kt [(sb, x), (sb, ta)])) (kt [(sb, x), (sb, ta)])).b := rfl
    refine ⟨_, rfl, fun a hS => ?_⟩
    have hE56 : Ext [] w w5 := hE55.trans hX5 (fun b hb => by simp at hb; subst hb; exact .inr hnsb)
    have hab5 := hB48.ext hX5 (by simpa using hB48.ne_type hB47 (by decide))
    have hrb5 := hB49.ext hX5 (by simpa using hB49.ne_type hB47 (by decide))
    have hG57 : x.Ok w5 sb := hG51.ext hX5 _ (fun b hb => by simp at hb; subst hb; exact hG51.not_foot hB47 (by decide) (by decide))
    have hG58 : ta.Ok w5 sb := hG52.ext hX5 _ (fun b hb => by simp at hb; subst hb; exact hG52.not_foot hB47 (by decide) (by decide))
    have hch5 : Chain ta (i + 1) (Tr.node nb (c + 1) 2 ↑i 0 0 0 0 vs5 (sumW (kt [(sb, x), (sb, ta)])) (sumL (kt [(sb, x), (sb, ta)])) (1 + sumT (kt [(sb, x), (sb, ta)])) (((2 : Int) == 3 || (2 : Int) == 5) || anyF (kt [(sb, x), (sb, ta)])) (kt [(sb, x), (sb, ta)])) := ⟨x, hch, rfl, rfl⟩
    generalize (Tr.node nb (c + 1) 2 ↑i 0 0 0 0 vs5 (sumW (kt [(sb, x), (sb, ta)])) (sumL (kt [(sb, x), (sb, ta)])) (1 + sumT (kt [(sb, x), (sb, ta)])) (((2 : Int) == 3 || (2 : Int) == 5) || anyF (kt [(sb, x), (sb, ta)])) (kt [(sb, x), (sb, ta)])) = x5 at hok5 hch5 hxb5
    subst hxb5
    refine seg wide_wide [.p, .p, .p, .p, .p] [0, 2, 3, 4, 5, 6, 7, 8] [] [(0, .int .i64 ↑N), (2, .pointer (some ⟨rb, 0, none⟩)), (3, .pointer (some ⟨sb, 0, none⟩)), (4, .pointer (some ⟨ab, 0, none⟩)), (5, .pointer (some ⟨x.b, 0, none⟩)), (6, .int .i64 ↑i), (7, .pointer (some ⟨x5.b, 0, none⟩)), (8, .int .i64 0)] 11 0 hS (by kernel_rfl) (by kernel_rfl) (by kernel_rfl) .nil fun a hS => ?_
    refine seg_end ?_
    refine hK41 _ _ ?_
    refine wpIn_seq_k fun K59 hK59 => ?_
    refine wpIn_seq_k fun K60 hK60 => ?_
    refine region 6 (by kernel_rfl) ?_
    refine seg wide_wide [.p, .p, .p, .p, .p, .p] [0, 2, 3, 4, 5, 6, 7, 8, 52] [] [(0, .int .i64 ↑N), (2, .pointer (some ⟨rb, 0, none⟩)), (3, .pointer (some ⟨sb, 0, none⟩)), (4, .pointer (some ⟨ab, 0, none⟩)), (5, .pointer (some ⟨x.b, 0, none⟩)), (6, .int .i64 ↑i), (7, .pointer (some ⟨x5.b, 0, none⟩)), (8, .int .i64 0), (52, .bool false)] 6 0 hS (by kernel_rfl) (by kernel_rfl) (by kernel_rfl) .nil fun a hS => ?_
    refine seg_end ?_
    refine hK60 _ _ ?_
    refine cond_f hS rfl ?_
    refine wpIn_skip ?_
    refine hK59 _ _ ?_
    refine region 2 (by kernel_rfl) ?_
    refine seg wide_wide [.p, .p] [0, 2, 3, 4, 5, 6, 7, 8, 52] [] [(0, .int .i64 ↑N), (2, .pointer (some ⟨rb, 0, none⟩)), (3, .pointer (some ⟨sb, 0, none⟩)), (4, .pointer (some ⟨ab, 0, none⟩)), (5, .pointer (some ⟨x5.b, 0, none⟩)), (6, .int .i64 ↑i), (7, .pointer (some ⟨x5.b, 0, none⟩)), (8, .int .i64 0), (52, .bool false)] 2 0 hS (by kernel_rfl) (by kernel_rfl) (by kernel_rfl) .nil fun a hS => ?_
    refine seg_end ?_
    refine inBlock_normal ?_
    refine hK40 _ _ ?_
    refine region 3 (by kernel_rfl) ?_
    refine seg wide_wide [.p, .as (.int .i64 (↑i + 1)), .p] [0, 2, 3, 4, 5, 6, 7, 8, 52] [Value.int .i64 (IntKind.i64.wrap (↑i + 1)) = .int .i64 (↑i + 1)] [(0, .int .i64 ↑N), (2, .pointer (some ⟨rb, 0, none⟩)), (3, .pointer (some ⟨sb, 0, none⟩)), (4, .pointer (some ⟨ab, 0, none⟩)), (5, .pointer (some ⟨x5.b, 0, none⟩)), (6, .int .i64 (↑i + 1)), (7, .pointer (some ⟨x5.b, 0, none⟩)), (8, .int .i64 0), (52, .bool false)] 3 0 hS (by kernel_rfl) (by kernel_rfl) (by kernel_rfl) (.cons (as_i64 (by omega)) .nil) fun a hS => ?_
    refine seg_end ?_
    exact ⟨(i + 1, x5, c + 1), ⟨hS.keepTo [0, 2, 3, 4, 5, 6] (by kernel_rfl), hok5, hG58, hch5, hBs5, hab5, hrb5, hE56, hiN, by omega⟩, by simp; omega⟩
  · -- decide ((↑i : Int) < ↑N) is false
    replace hb39 := of_decide_eq_false hb39
    obtain rfl : i = N := by omega
    have hNx : Blk w4 x.b 106 #[.pointer (some ⟨sb, 0, none⟩), .int .i64 x.num, .int .i64 x.kd, .int .i64 x.nn, .int .i64 x.lk, .int .i64 x.ls, .int .i64 x.ll, .int .i64 x.lr, x.ks, .int .i64 x.wd, .int .i64 x.lf, .int .i64 x.tt, .bool false] := by rw [← hxf]; exact hok.blk
    refine wpIn_exit ?_
    refine then_exit ?_
    refine then_exit ?_
    refine inBlock_hit ?_
    refine hK35 _ _ ?_
    refine wpIn_seq_k fun K61 hK61 => ?_
    refine wpIn_seq_k fun K62 hK62 => ?_
    refine region 25 (by kernel_rfl) ?_
    refine seg wide_wide [.p] [0, 2, 3, 4, 5, 54] [] [(0, .int .i64 ↑i), (2, .pointer (some ⟨rb, 0, none⟩)), (3, .pointer (some ⟨sb, 0, none⟩)), (4, .pointer (some ⟨ab, 0, none⟩)), (5, .pointer (some ⟨x.b, 0, none⟩)), (54, .pointer (some ⟨x.b, 0, none⟩))] 1 24 hS (by kernel_rfl) (by kernel_rfl) (by kernel_rfl) .nil fun a hS => ?_
    refine eff_call_ro wide_wide (r := 23) (f := 19) (vs := [.pointer (some ⟨x.b, 0, none⟩)]) (cap := #[]) (d := (some 55)) (v := Value.int .i64 x.wd) hS (by kernel_rfl) Try.call19 #[.pointer (some ⟨x.b, 0, none⟩)] (by kernel_rfl) (Width_any hNx) fun a hS => ?_
    refine seg wide_wide [.p, .as (.int .i64 (↑i + 1)), .as (.bool false), .p, .p] [0, 2, 3, 4, 5, 59, 60] [Value.int .i64 (IntKind.i64.wrap (↑i + 1)) = .int .i64 (↑i + 1), Value.bool (((x.wd : Int) != (↑i + 1))) = .bool false] [(0, .int .i64 ↑i), (2, .pointer (some ⟨rb, 0, none⟩)), (3, .pointer (some ⟨sb, 0, none⟩)), (4, .pointer (some ⟨ab, 0, none⟩)), (5, .pointer (some ⟨x.b, 0, none⟩)), (59, .bool false), (60, .pointer (some ⟨x.b, 0, none⟩))] 7 18 hS (by kernel_rfl) (by kernel_rfl) (by kernel_rfl) (.cons (as_i64 (by omega)) (.cons (as_ne_f (by omega)) .nil)) fun a hS => ?_
    refine eff_call_ro wide_wide (r := 17) (f := 21) (vs := [.pointer (some ⟨x.b, 0, none⟩)]) (cap := #[]) (d := (some 61)) (v := Value.int .i64 x.lf) hS (by kernel_rfl) Try.call21 #[.pointer (some ⟨x.b, 0, none⟩)] (by kernel_rfl) (Leafs_any hNx) fun a hS => ?_
    refine seg wide_wide [.p, .as (.int .i64 (↑i + 1)), .as (.bool false), .p, .p, .p] [0, 2, 3, 4, 5, 66, 67] [Value.int .i64 (IntKind.i64.wrap (↑i + 1)) = .int .i64 (↑i + 1), Value.bool (((x.lf : Int) != (↑i + 1))) = .bool false] [(0, .int .i64 ↑i), (2, .pointer (some ⟨rb, 0, none⟩)), (3, .pointer (some ⟨sb, 0, none⟩)), (4, .pointer (some ⟨ab, 0, none⟩)), (5, .pointer (some ⟨x.b, 0, none⟩)), (66, .bool false), (67, .pointer (some ⟨x.b, 0, none⟩))] 14 11 hS (by kernel_rfl) (by kernel_rfl) (by kernel_rfl) (.cons (as_i64 (by omega)) (.cons (as_ne_f (by omega)) .nil)) fun a hS => ?_
    refine eff_call_ro wide_wide (r := 10) (f := 23) (vs := [.pointer (some ⟨x.b, 0, none⟩)]) (cap := #[]) (d := (some 68)) (v := Value.bool false) hS (by kernel_rfl) Try.call23 #[.pointer (some ⟨x.b, 0, none⟩)] (by kernel_rfl) (Failed_any hNx) fun a hS => ?_
    refine seg wide_wide [.p, .p, .p] [0, 2, 3, 4, 5, 70, 71] [] [(0, .int .i64 ↑i), (2, .pointer (some ⟨rb, 0, none⟩)), (3, .pointer (some ⟨sb, 0, none⟩)), (4, .pointer (some ⟨ab, 0, none⟩)), (5, .pointer (some ⟨x.b, 0, none⟩)), (70, .bool false), (71, .pointer (some ⟨x.b, 0, none⟩))] 18 7 hS (by kernel_rfl) (by kernel_rfl) (by kernel_rfl) .nil fun a hS => ?_
    refine eff_call wide_wide (r := 6) (f := 25) (vs := [.pointer (some ⟨x.b, 0, none⟩)]) (cap := #[]) (d := (some 72)) hS (by kernel_rfl) Try.call25 #[.pointer (some ⟨x.b, 0, none⟩)] (by kernel_rfl) (Rows_n (t := x) (n := 2 * i + 1) hok (by have := walk_len x hok 0; omega) rfl) ?_
    rintro _ w7 ⟨g, cap, rfl, hOg, hE67, hgn⟩
    refine ⟨_, rfl, fun a hS => ?_⟩
    have hE63 := hEx.trans0 hE67
    have hB64 : Blk w7 sb 102 (#[.int .i64 c]) := hsb.ext hE67 (by simp)
    have hB65 : Blk w7 ab 47 (#[.pointer (some ⟨ta.b, 0, none⟩)]) := hab.ext hE67 (by simp)
    have hB66 : Blk w7 rb 4 (#[.bool false]) := hrb.ext hE67 (by simp)
    have hB67 : Blk w7 x.b 106 (#[.pointer (some ⟨sb, 0, none⟩), .int .i64 x.num, .int .i64 x.kd, .int .i64 x.nn, .int .i64 x.lk, .int .i64 x.ls, .int .i64 x.ll, .int .i64 x.lr, x.ks, .int .i64 x.wd, .int .i64 x.lf, .int .i64 x.tt, .bool false]) := hNx.ext hE67 (by simp)
    have hG68 : x.Ok w7 sb := hok.ext hE67 _ (by simp)
    have hG69 : ta.Ok w7 sb := haok.ext hE67 _ (by simp)
    refine seg wide_wide [.p, .p, .as (.int .i64 (2 * ↑i)), .as (.int .i64 ((2 * ↑i) + 1)), .as (.bool false), .p] [0, 2, 3, 4, 5, 78] [Value.int .i64 (IntKind.i64.wrap (2 * ↑i)) = .int .i64 (2 * ↑i), Value.int .i64 (IntKind.i64.wrap ((2 * ↑i) + 1)) = .int .i64 ((2 * ↑i) + 1), Value.bool (((((2 * i + 1 : Nat) : Int) : Int) != ((2 * ↑i) + 1))) = .bool false] [(0, .int .i64 ↑i), (2, .pointer (some ⟨rb, 0, none⟩)), (3, .pointer (some ⟨sb, 0, none⟩)), (4, .pointer (some ⟨ab, 0, none⟩)), (5, .pointer (some ⟨x.b, 0, none⟩)), (78, .bool false)] 25 0 hS (by kernel_rfl) (by kernel_rfl) (by kernel_rfl) (.cons (as_i64 (by omega)) (.cons (as_i64 (by omega)) (.cons (as_ne_f (by omega)) .nil))) fun a hS => ?_
    refine seg_end ?_
    refine hK62 _ _ ?_
    refine cond_f hS rfl ?_
    refine wpIn_skip ?_
    refine hK61 _ _ ?_
    refine wpIn_seq_k fun K70 hK70 => ?_
    refine region 3 (by kernel_rfl) ?_
    refine seg wide_wide [.p] [0, 2, 3, 4, 5, 78, 79] [] [(0, .int .i64 ↑i), (2, .pointer (some ⟨rb, 0, none⟩)), (3, .pointer (some ⟨sb, 0, none⟩)), (4, .pointer (some ⟨ab, 0, none⟩)), (5, .pointer (some ⟨x.b, 0, none⟩)), (78, .bool false), (79, .pointer (some ⟨x.b, 0, none⟩))] 1 2 hS (by kernel_rfl) (by kernel_rfl) (by kernel_rfl) .nil fun a hS => ?_
    refine eff_call wide_wide (r := 1) (f := 30) (vs := [.pointer (some ⟨x.b, 0, none⟩)]) (cap := #[]) (d := (some 80)) hS (by kernel_rfl) Try.call30 #[.pointer (some ⟨x.b, 0, none⟩)] (by kernel_rfl) (Leaves_any x.b w7) ?_
    rintro _ w8 ⟨rfl, hw71⟩
    refine ⟨_, rfl, fun a hS => ?_⟩
    have hbx : Blk w8 w7.heap.size 47 #[pv x.b] := by rw [hw71]; exact Blk.new _ _ _
    have hE78 : Ext [] w7 w8 := by rw [hw71]; exact (Ext.refl _ _).alloc _
    have hE72 := hE63.trans0 hE78
    have hB73 : Blk w8 sb 102 (#[.int .i64 c]) := hB64.ext hE78 (by simp)
    have hB74 : Blk w8 ab 47 (#[.pointer (some ⟨ta.b, 0, none⟩)]) := hB65.ext hE78 (by simp)
    have hB75 : Blk w8 rb 4 (#[.bool false]) := hB66.ext hE78 (by simp)
    have hB76 : Blk w8 x.b 106 (#[.pointer (some ⟨sb, 0, none⟩), .int .i64 x.num, .int .i64 x.kd, .int .i64 x.nn, .int .i64 x.lk, .int .i64 x.ls, .int .i64 x.ll, .int .i64 x.lr, x.ks, .int .i64 x.wd, .int .i64 x.lf, .int .i64 x.tt, .bool false]) := hB67.ext hE78 (by simp)
    have hG77 : x.Ok w8 sb := hG68.ext hE78 _ (by simp)
    have hG78 : ta.Ok w8 sb := hG69.ext hE78 _ (by simp)
    have hE88 : Ext [] w8 w8 := Ext.refl _ _
    have hE8k : Ext [w8.heap.size] w8 w8 := Ext.refl _ _
    refine seg wide_wide [.p] [0, 2, 3, 4, 5, 78, 9] [] [(0, .int .i64 ↑i), (2, .pointer (some ⟨rb, 0, none⟩)), (3, .pointer (some ⟨sb, 0, none⟩)), (4, .pointer (some ⟨ab, 0, none⟩)), (5, .pointer (some ⟨x.b, 0, none⟩)), (78, .bool false), (9, .func (.func 57) #[] #[.pointer (some ⟨w7.heap.size, 0, none⟩)])] 3 0 hS (by kernel_rfl) (by kernel_rfl) (by kernel_rfl) .nil fun a hS => ?_
    refine seg_end ?_
    refine hK70 _ _ ?_
    refine wpIn_seq_k fun K79 hK79 => ?_
    refine wpIn_seq_k fun K80 hK80 => ?_
    refine region 2 (by kernel_rfl) ?_
    refine seg wide_wide [.p, .p] [0, 2, 3, 4, 5, 78, 9, 82] [] [(0, .int .i64 ↑i), (2, .pointer (some ⟨rb, 0, none⟩)), (3, .pointer (some ⟨sb, 0, none⟩)), (4, .pointer (some ⟨ab, 0, none⟩)), (5, .pointer (some ⟨x.b, 0, none⟩)), (78, .bool false), (9, .func (.func 57) #[] #[.pointer (some ⟨w7.heap.size, 0, none⟩)]), (82, .bool false)] 2 0 hS (by kernel_rfl) (by kernel_rfl) (by kernel_rfl) .nil fun a hS => ?_
    refine seg_end ?_
    refine hK80 _ _ ?_
    refine cond_f hS rfl ?_
    refine wpIn_skip ?_
    refine hK79 _ _ ?_
    refine wpIn_seq_k fun K81 hK81 => ?_
    refine region 2 (by kernel_rfl) ?_
    refine eff_box wide_wide (r := 1) (cs := #[.int .i64 0]) (T := 3) (d := (some 10)) hS (by kernel_rfl) fun a w82 hw83 hS => ?_
    have hn84 : sb ≠ w8.heap.size := Nat.ne_of_lt hB73.lt
    have hn85 : ab ≠ w8.heap.size := Nat.ne_of_lt hB74.lt
    have hn86 : rb ≠ w8.heap.size := Nat.ne_of_lt hB75.lt
    have hn87 : x.b ≠ w8.heap.size := Nat.ne_of_lt hB76.lt
    have hB88 : Blk w82 sb 102 (#[.int .i64 c]) := by rw [hw83]; exact hB73.alloc _
    have hB89 : Blk w82 ab 47 (#[.pointer (some ⟨ta.b, 0, none⟩)]) := by rw [hw83]; exact hB74.alloc _
    have hB90 : Blk w82 rb 4 (#[.bool false]) := by rw [hw83]; exact hB75.alloc _
    have hB91 : Blk w82 x.b 106 (#[.pointer (some ⟨sb, 0, none⟩), .int .i64 x.num, .int .i64 x.kd, .int .i64 x.nn, .int .i64 x.lk, .int .i64 x.ls, .int .i64 x.ll, .int .i64 x.lr, x.ks, .int .i64 x.wd, .int .i64 x.lf, .int .i64 x.tt, .bool false]) := by rw [hw83]; exact hB76.alloc _
    have hX92 : Ext [] w8 w82 := by rw [hw83]; exact (Ext.refl _ _).alloc _
    have hG93 : x.Ok w82 sb := hG77.ext hX92 _ (by simp)
    have hG94 : ta.Ok w82 sb := hG78.ext hX92 _ (by simp)
    have hG95 : Ext [w8.heap.size] w8 w82 := hE8k.trans hX92 (by simp)
    have hB96 : Blk w82 (w8.heap.size) 3 #[.int .i64 0] := by rw [hw83]; exact Blk.new _ _ _
    have hs97 : w.heap.size ≤ w8.heap.size := hE72.size
    have hE98 : Ext [] w w82 := by rw [hw83]; exact hE72.alloc _
    refine eff_store wide_wide (r := 0) (b := w8.heap.size) (off := 0) (vs := [.int .i64 0]) hS (by kernel_rfl) hB96 (by simp) fun a w99 hw100 hS => ?_
    have hB101 : Blk w99 sb 102 (#[.int .i64 c]) := by rw [hw100]; exact hB88.updNe (Ne.symm hn84) _ _
    have hB102 : Blk w99 ab 47 (#[.pointer (some ⟨ta.b, 0, none⟩)]) := by rw [hw100]; exact hB89.updNe (Ne.symm hn85) _ _
    have hB103 : Blk w99 rb 4 (#[.bool false]) := by rw [hw100]; exact hB90.updNe (Ne.symm hn86) _ _
    have hB104 : Blk w99 x.b 106 (#[.pointer (some ⟨sb, 0, none⟩), .int .i64 x.num, .int .i64 x.kd, .int .i64 x.nn, .int .i64 x.lk, .int .i64 x.ls, .int .i64 x.ll, .int .i64 x.lr, x.ks, .int .i64 x.wd, .int .i64 x.lf, .int .i64 x.tt, .bool false]) := by rw [hw100]; exact hB91.updNe (Ne.symm hn87) _ _
    have hB105 : Blk w99 w8.heap.size 3 (#[.int .i64 0]) := by rw [hw100]; exact hB96.upd _ _
    have hX106 : Ext [w8.heap.size] w82 w99 := by rw [hw100]; exact (Ext.refl _ _).updIn (.inl (by simp)) _ _
    have hG107 : x.Ok w99 sb := hG93.ext hX106 _ (fun b hb => by simp at hb; subst hb; exact hG93.not_foot hB96 (by decide) (by decide))
    have hG108 : ta.Ok w99 sb := hG94.ext hX106 _ (fun b hb => by simp at hb; subst hb; exact hG94.not_foot hB96 (by decide) (by decide))
    have hG109 : Ext [w8.heap.size] w8 w99 := hG95.trans hX106 (by simp)
    have hE110 : Ext [] w w99 := by rw [hw100]; exact hE98.updIn (.inr hs97) _ _
    refine seg_end ?_
    refine hK81 _ _ ?_
    refine wpIn_seq_k fun K111 hK111 => ?_
    refine wpIn_seq_k fun K112 hK112 => ?_
    refine region 1 (by kernel_rfl) ?_
    refine seg wide_wide [.p] [0, 2, 3, 4, 5, 78, 9, 82, 10, 83] [] [(0, .int .i64 ↑i), (2, .pointer (some ⟨rb, 0, none⟩)), (3, .pointer (some ⟨sb, 0, none⟩)), (4, .pointer (some ⟨ab, 0, none⟩)), (5, .pointer (some ⟨x.b, 0, none⟩)), (78, .bool false), (9, .func (.func 57) #[] #[.pointer (some ⟨w7.heap.size, 0, none⟩)]), (82, .bool false), (10, .pointer (some ⟨w8.heap.size, 0, none⟩)), (83, .func (.func 57) #[] #[.pointer (some ⟨w7.heap.size, 0, none⟩)])] 1 0 hS (by kernel_rfl) (by kernel_rfl) (by kernel_rfl) .nil fun a hS => ?_
    refine seg_end ?_
    refine hK112 _ _ ?_
    refine wpIn_block ?_
    replace hS := hS.keepTo [0, 2, 4, 5, 10, 83] (m' := [(0, .int .i64 ↑i), (2, .pointer (some ⟨rb, 0, none⟩)), (4, .pointer (some ⟨ab, 0, none⟩)), (5, .pointer (some ⟨x.b, 0, none⟩)), (10, .pointer (some ⟨w8.heap.size, 0, none⟩)), (83, .func (.func 57) #[] #[.pointer (some ⟨w7.heap.size, 0, none⟩)])]) (by kernel_rfl)
    have hkb0 := hB105
    have hkbn : w.heap.size ≤ w8.heap.size := hs97
    have hkbx : w8.heap.size ≤ w8.heap.size := Nat.le_refl _
    have hab9 := hB102
    have hrb9 := hB103
    have hNx9 := hB104
    have hE9 := hE110
    have hE89 : Ext [] w8 w99 := (Ext.refl [] w8).trans hG109 (by intro b hb; simp at hb; exact .inr (by omega))
    have hbx9 := hbx.ext hE89 (by simp)
    have hx9 : x.Ok w99 sb := hG107
    have ha9 : ta.Ok w99 sb := hG108
    have hxlt : ∀ b, x.Foot b → b < w8.heap.size := fun b hb => (Tr.Ok.foot_lt (hG77) hb)
    generalize hkbe : w8.heap.size = kb at hS hkb0 hkbn hkbx
    have hleaves := chain_leaves hone i x hch hx9 0
    have hkblt := hkb0.lt
    refine range_out (gf := 57) (lb := #[pv w7.heap.size]) (enc := encW) (xs := (walk x 0).filter isLeaf) (T := fun b => b = w7.heap.size ∨ x.Foot b)
      (fun pre Cx W => Cx = [kb] ∧ Blk W kb 3 #[.int .i64 (pre.length : Int)])
      (fun _ _ _ _ => False) [kb] (fun q => [(4, .pointer (some ⟨ab, 0, none⟩)), (10, .pointer (some ⟨kb, 0, none⟩)), (11, .int .i64 q.1), (12, .pointer (some ⟨q.2.b, 0, none⟩))]) hS rfl Try.call57 ?_ ?_ ?_ ?_ (fun _ => rfl) rfl ?_ ?_ ?_ ?_ ?_ ?_ ?_
    · intro W hEW _
      exact Leaves1_any (hbx9.ext hEW (by simp)) (hx9.ext hEW x (by simp))
    · rintro b (rfl | hb)
      · exact hbx9.lt
      · exact hx9.foot_lt hb
    · intro b hb hT
      obtain rfl : b = kb := by simpa using hb
      rcases hT with hT | hT
      · exact absurd (hkb0.same (hT ▸ hbx9)).1 (by decide)
      · have := hxlt _ hT; omega
    · intro b hb
      obtain rfl : b = kb := by simpa using hb
      exact hkblt
    · rintro s Cx M W W' ⟨rfl, h1⟩ hE hM
      exact ⟨rfl, h1.ext hE (fun hm => (hM _ hm).2 (by simp))⟩
    · intro c s Cx M W W' h; exact h.elim
    · exact ⟨rfl, hkb0⟩
    · intro l2 q a' W K hS hK
      refine wpIn_seq_k fun K113 hK113 => ?_
      refine region 1 (by kernel_rfl) ?_
      refine seg (wide_wide.inRound l2) [.p] [4, 10, 84, 85, 11] [] [(4, .pointer (some ⟨ab, 0, none⟩)), (10, .pointer (some ⟨kb, 0, none⟩)), (84, .int .i64 q.1), (85, q.2.ptr), (11, .int .i64 q.1)] 1 0 hS (by kernel_rfl) (by kernel_rfl) (by kernel_rfl) .nil fun a hS => ?_
      refine seg_end ?_
      refine hK113 _ _ ?_
      refine region 1 (by kernel_rfl) ?_
      refine seg (wide_wide.inRound l2) [.p] [4, 10, 84, 85, 11, 12] [] [(4, .pointer (some ⟨ab, 0, none⟩)), (10, .pointer (some ⟨kb, 0, none⟩)), (84, .int .i64 q.1), (85, q.2.ptr), (11, .int .i64 q.1), (12, q.2.ptr)] 1 0 hS (by kernel_rfl) (by kernel_rfl) (by kernel_rfl) .nil fun a hS => ?_
      refine seg_end ?_
      exact hK _ (hS.keepTo [4, 10, 11, 12] (by kernel_rfl))
    · rintro l2 pre q post Cx W a hxs ⟨rfl, hkbW⟩ hlieW hfrW hnl hrec hEW hS
      have hql : pre.length < i + 1 := by
        have := congrArg List.length hxs
        rw [hleaves] at this
        simp at this
        omega
      obtain rfl : q = (((pre.length : Nat) : Int), ta) := by
        have h1 : ((walk x 0).filter isLeaf)[pre.length]? = some q := by rw [hxs]; simp
        rw [hleaves] at h1
        simp [hql] at h1
        rw [← h1]
      have habW := hab9.ext hEW (by simpa using hab9.ne_type hkb0 (by decide))
      have hWW : Ext [kb] W W := Ext.refl _ _
      have haW : Blk W ta.b 106 #[.pointer (some ⟨sb, 0, none⟩), .int .i64 ta.num, .int .i64 ta.kd, .int .i64 ta.nn, .int .i64 ta.lk, .int .i64 ta.ls, .int .i64 ta.ll, .int .i64 ta.lr, ta.ks, .int .i64 ta.wd, .int .i64 ta.lf, .int .i64 ta.tt, .bool ta.fl] := (ha9.ext hEW ta (by intro b hb; obtain rfl : b = kb := (by simpa using hb); exact ha9.not_foot hkb0 (by decide) (by decide))).blk
      replace hS : St 167 [] [(4, .pointer (some ⟨ab, 0, none⟩)), (10, .pointer (some ⟨kb, 0, none⟩)), (11, .int .i64 ↑pre.length), (12, .pointer (some ⟨ta.b, 0, none⟩))] a := hS
      refine wpIn_block ?_
      refine wpIn_seq_k fun K114 hK114 => ?_
      refine wpIn_seq_k fun K115 hK115 => ?_
      refine region 8 (by kernel_rfl) ?_
      refine seg (wide_wide.inRound l2) [.p, .ld (.int .i64 ↑pre.length), .as (.bool false), .p, .p, .ld (.pointer (some ⟨ta.b, 0, none⟩)), .run (.bool false), .p] [4, 10, 11, 12, 93] [W.cell? ⟨kb, 0, none⟩ = some (.int .i64 ↑pre.length), Value.bool (((↑pre.length : Int) != ↑pre.length)) = .bool false, W.cell? ⟨ab, 0, none⟩ = some (.pointer (some ⟨ta.b, 0, none⟩)), Sem.run Try.prog (vS (do eqGuard .neq 47 (.tmp 90) (.tmp 91) (.pointer (some ⟨ta.b, 0, none⟩)) (.pointer (some ⟨ta.b, 0, none⟩)); binOp .neq 47 (.pointer (some ⟨ta.b, 0, none⟩)) (.pointer (some ⟨ta.b, 0, none⟩)))) W = .ok (.value (.bool false)) W] [(4, .pointer (some ⟨ab, 0, none⟩)), (10, .pointer (some ⟨kb, 0, none⟩)), (11, .int .i64 ↑pre.length), (12, .pointer (some ⟨ta.b, 0, none⟩)), (93, .bool false)] 8 0 hS (by kernel_rfl) (by kernel_rfl) (by kernel_rfl) (.cons (hkbW.cell 0 rfl) (.cons (as_ne_f (rfl)) (.cons (habW.cell 0 rfl) (.cons (bin_ptr_neq (E := 106) (by kernel_rfl) ⟨12, by kernel_rfl⟩ haW haW (by simp)) .nil)))) fun a hS => ?_
      refine seg_end ?_
      refine hK115 _ _ ?_
      refine cond_f hS rfl ?_
      refine wpIn_skip ?_
      refine hK114 _ _ ?_
      refine region 3 (by kernel_rfl) ?_
      refine seg (wide_wide.inRound l2) [.ld (.int .i64 ↑pre.length), .as (.int .i64 (↑pre.length + 1))] [4, 10, 11, 12, 93, 95] [W.cell? ⟨kb, 0, none⟩ = some (.int .i64 ↑pre.length), Value.int .i64 (IntKind.i64.wrap (↑pre.length + 1)) = .int .i64 (↑pre.length + 1)] [(4, .pointer (some ⟨ab, 0, none⟩)), (10, .pointer (some ⟨kb, 0, none⟩)), (11, .int .i64 ↑pre.length), (12, .pointer (some ⟨ta.b, 0, none⟩)), (93, .bool false), (95, .int .i64 (↑pre.length + 1))] 2 1 hS (by kernel_rfl) (by kernel_rfl) (by kernel_rfl) (.cons (hkbW.cell 0 rfl) (.cons (as_i64 (by omega)) .nil)) fun a hS => ?_
      refine eff_store (wide_wide.inRound l2) (r := 0) (b := kb) (off := 0) (vs := [.int .i64 (↑pre.length + 1)]) hS (by kernel_rfl) hkbW (by simp) fun a w116 hw117 hS => ?_
      have hB118 : Blk w116 kb 3 (#[.int .i64 (↑pre.length + 1)]) := by rw [hw117]; exact hkbW.upd _ _
      have hB119 : Blk w116 ab 47 (#[.pointer (some ⟨ta.b, 0, none⟩)]) := by rw [hw117]; exact habW.updNe (Blk.ne_type hkbW habW (by decide)) _ _
      have hB120 : Blk w116 ta.b 106 (#[.pointer (some ⟨sb, 0, none⟩), .int .i64 ta.num, .int .i64 ta.kd, .int .i64 ta.nn, .int .i64 ta.lk, .int .i64 ta.ls, .int .i64 ta.ll, .int .i64 ta.lr, ta.ks, .int .i64 ta.wd, .int .i64 ta.lf, .int .i64 ta.tt, .bool ta.fl]) := by rw [hw117]; exact haW.updNe (Blk.ne_type hkbW haW (by decide)) _ _
      have hE121 : Ext [kb] W w116 := by rw [hw117]; exact hWW.updIn (.inl (by simp)) _ _
      refine seg_end ?_
      refine inBlock_normal ?_
      exact left_normal (C' := [kb]) hE121 (Fresh.refl _ _) (hlieW.ext hE121) ⟨rfl, by simpa using hB118⟩
    · rintro Cx w10 a hE910 hfr10 hlie10 hD10 ⟨rfl, hkb10⟩ hS
      rw [hleaves] at hkb10
      simp only [List.length_map, List.length_range] at hkb10
      have hnk : ∀ {T : TypeId} {cs : Array Value} {b : Nat}, Blk w99 b T cs → T ≠ 3 → b ∉ [kb] := fun h1 h2 hm => by
        obtain rfl := (by simpa using hm : _ = kb)
        exact h2 (h1.same hkb0).1
      have hab10 := hab9.ext hE910 (hnk hab9 (by decide))
      have hrb10 := hrb9.ext hE910 (hnk hrb9 (by decide))
      have hNx10 := hNx9.ext hE910 (hnk hNx9 (by decide))
      have hnf : ∀ {t : Tr}, t.Ok w99 sb → ∀ b ∈ [kb], ¬t.Foot b := fun h b hb => by
        obtain rfl := (by simpa using hb : b = kb)
        exact h.not_foot hkb0 (by decide) (by decide)
      have hx10 := hx9.ext hE910 x (hnf hx9)
      have ha10 := ha9.ext hE910 ta (hnf ha9)
      have hEw10 : Ext [] w w10 := hE9.trans hE910 (by intro b hb; obtain rfl := (by simpa using hb : b = kb); exact .inr hkbn)
      replace hS : St 167 ([w99.heap.size].map dmark) [(0, .int .i64 ↑i), (2, .pointer (some ⟨rb, 0, none⟩)), (4, .pointer (some ⟨ab, 0, none⟩)), (5, .pointer (some ⟨x.b, 0, none⟩)), (10, .pointer (some ⟨kb, 0, none⟩))] a := hS.keepTo [0, 2, 4, 5, 10] (by kernel_rfl)
      have haN10 : Blk w10 ta.b 106 #[.pointer (some ⟨sb, 0, none⟩), .int .i64 ta.num, .int .i64 ta.kd, .int .i64 ta.nn, .int .i64 ta.lk, .int .i64 ta.ls, .int .i64 ta.ll, .int .i64 ta.lr, ta.ks, .int .i64 ta.wd, .int .i64 ta.lf, .int .i64 ta.tt, .bool ta.fl] := ha10.blk
      have hEr0 : Ext [rb] w10 w10 := Ext.refl _ _
      refine inBlock_normal ?_
      refine hK111 _ _ ?_
      refine wpIn_seq_k fun K122 hK122 => ?_
      refine region 3 (by kernel_rfl) ?_
      refine seg wide_wide [.p] [0, 2, 4, 5, 10, 96] [] [(0, .int .i64 ↑i), (2, .pointer (some ⟨rb, 0, none⟩)), (4, .pointer (some ⟨ab, 0, none⟩)), (5, .pointer (some ⟨x.b, 0, none⟩)), (10, .pointer (some ⟨kb, 0, none⟩)), (96, .pointer (some ⟨x.b, 0, none⟩))] 1 2 hS (by kernel_rfl) (by kernel_rfl) (by kernel_rfl) .nil fun a hS => ?_
      refine eff_call wide_wide (r := 1) (f := 37) (vs := [.pointer (some ⟨x.b, 0, none⟩)]) (cap := #[]) (d := (some 97)) hS (by kernel_rfl) Try.call37 #[.pointer (some ⟨x.b, 0, none⟩)] (by kernel_rfl) (Cursor_any x.b w10) ?_
      rintro _ w11 ⟨rfl, hw123⟩
      refine ⟨_, rfl, fun a hS => ?_⟩
      have hcb11 : Blk w11 w10.heap.size 77 #[.pointer (some ⟨x.b, 0, none⟩), .slice none 0 0, .pointer (some ⟨x.b, 0, none⟩), .int .i64 0] := by rw [hw123]; exact Blk.new _ _ _
      have hE1011 : Ext [] w10 w11 := by rw [hw123]; exact (Ext.refl _ _).alloc _
      have hcbn : w10.heap.size ≤ w10.heap.size := hEr0.size
      have hcbf : ∀ {t : Tr}, t.Ok w10 sb → ¬t.Foot w10.heap.size := fun h hf => Nat.lt_irrefl _ (h.foot_lt hf)
      have hE124 := hEr0.trans0 hE1011
      have hB125 : Blk w11 kb 3 (#[.int .i64 ((i + 1 : Nat) : Int)]) := hkb10.ext hE1011 (by simp)
      have hB126 : Blk w11 ab 47 (#[.pointer (some ⟨ta.b, 0, none⟩)]) := hab10.ext hE1011 (by simp)
      have hB127 : Blk w11 rb 4 (#[.bool false]) := hrb10.ext hE1011 (by simp)
      have hB128 : Blk w11 x.b 106 (#[.pointer (some ⟨sb, 0, none⟩), .int .i64 x.num, .int .i64 x.kd, .int .i64 x.nn, .int .i64 x.lk, .int .i64 x.ls, .int .i64 x.ll, .int .i64 x.lr, x.ks, .int .i64 x.wd, .int .i64 x.lf, .int .i64 x.tt, .bool false]) := hNx10.ext hE1011 (by simp)
      have hB129 : Blk w11 ta.b 106 (#[.pointer (some ⟨sb, 0, none⟩), .int .i64 ta.num, .int .i64 ta.kd, .int .i64 ta.nn, .int .i64 ta.lk, .int .i64 ta.ls, .int .i64 ta.ll, .int .i64 ta.lr, ta.ks, .int .i64 ta.wd, .int .i64 ta.lf, .int .i64 ta.tt, .bool ta.fl]) := haN10.ext hE1011 (by simp)
      obtain ⟨cb, hcbe⟩ : ∃ cb, cb = w10.heap.size := ⟨_, rfl⟩
      rw [← hcbe] at hS hcb11
      replace hcbn : w10.heap.size ≤ cb := by rw [hcbe]; exact hcbn
      have hx11 := hx10.ext hE124 x (by intro b hb; obtain rfl := (by simpa using hb : b = rb); exact hx10.not_foot hrb10 (by decide) (by decide))
      refine seg wide_wide [.p] [0, 2, 4, 5, 10, 13] [] [(0, .int .i64 ↑i), (2, .pointer (some ⟨rb, 0, none⟩)), (4, .pointer (some ⟨ab, 0, none⟩)), (5, .pointer (some ⟨x.b, 0, none⟩)), (10, .pointer (some ⟨kb, 0, none⟩)), (13, .pointer (some ⟨cb, 0, none⟩))] 3 0 hS (by kernel_rfl) (by kernel_rfl) (by kernel_rfl) .nil fun a hS => ?_
      refine seg_end ?_
      refine hK122 _ _ ?_
      refine wpIn_seq_k fun K130 hK130 => ?_
      refine wpIn_seq_k fun K131 hK131 => ?_
      refine region_gh (G := (List Stp) × (Option Addr) × Nat × World × (Option Addr) × Nat × World) wide_wide [.q (.ld (.int .i64 ((i + 1 : Nat) : Int))), .q .p, .q (.as (.int .i64 (↑i + 1))), .q (.as (.bool false)), .q .p, .q .p, .q .p, .q .p, .q .p, .q .p, .e, .q .p, .q .p, .q .p, .q .p, .q .p, .q .p, .e, .q .p, .q .p, .q (.as (.bool false)), .q .p, .q .p, .q .p, .q .p, .q .p, .e, .q .p, .q .p, .q .p, .q .p, .q .p, .q .p, .e, .q (.ld (.pointer (some ⟨ta.b, 0, none⟩))), .q (.run (.bool false)), .q .p] [0, 0, 0, 0, 0, 0, 0, 0, 0, 0, 0, 1, 1, 1, 1, 1, 1, 1, 2, 1, 2, 2, 2, 2, 2, 2, 2, 3, 3, 3, 3, 3, 3, 3, 3, 4, 4] [0, 0, 0, 0, 0, 0, 0, 0, 0, 0, 0, 1, 1, 1, 1, 1, 1, 1, 2, 2, 2, 2, 2, 2, 2, 2, 2, 3, 3, 3, 3, 3, 3, 3, 4, 4, 4] [0, 0, 2, 7, 15, 31, 63, 127, 255, 511, 1023, 2047, 4095, 8191, 16383, 32767, 65535, 131071, 262143, 16383, 1048575, 2097151, 4194303, 8388607, 16777215, 33554431, 67108863, 134217727, 268435455, 536870911, 1073741823, 2147483647, 4294967295, 8589934591, 1073741823, 34359738367, 68719476735] [10, 17, 26, 33] [(10, 0), (17, 1), (26, 2), (33, 3)] 4 (fun ⟨st1, bs1, cp1, wt1, b2, c2, wt2⟩ => ([(0, .int .i64 ↑i), (2, .pointer (some ⟨rb, 0, none⟩)), (4, .pointer (some ⟨ab, 0, none⟩)), (5, .pointer (some ⟨x.b, 0, none⟩)), (10, .pointer (some ⟨kb, 0, none⟩)), (13, .pointer (some ⟨cb, 0, none⟩)), (98, .int .i64 ((i + 1 : Nat) : Int)), (99, .int .i64 ↑i), (100, .int .i64 (↑i + 1)), (101, .bool false), (102, .bool false), (103, .pointer (some ⟨cb, 0, none⟩)), (104, .bool false), (105, .bool false), (106, .bool false), (107, .pointer (some ⟨cb, 0, none⟩)), (108, .bool true), (109, .bool false), (110, .bool false), (111, .bool false), (112, .pointer (some ⟨cb, 0, none⟩)), (113, .pointer (some ⟨cb, 0, none⟩)), (114, .pointer (some ⟨cb, 0, none⟩)), (115, .slice b2 st1.length c2), (116, .int .i64 ↑st1.length), (117, .int .i64 ↑i), (118, .bool false), (119, .bool false), (120, .bool false), (121, .pointer (some ⟨cb, 0, none⟩)), (122, .pointer (some ⟨cb, 0, none⟩)), (123, .pointer (some ⟨cb, 0, none⟩)), (124, .int .i64 0), (125, .bool false), (126, .bool false), (127, .bool false), (128, .pointer (some ⟨cb, 0, none⟩)), (129, .pointer (some ⟨cb, 0, none⟩)), (130, .pointer (some ⟨cb, 0, none⟩)), (131, .pointer (some ⟨ta.b, 0, none⟩)), (132, .pointer (some ⟨ta.b, 0, none⟩)), (133, .bool false), (134, .bool false)] : Fm)) (fun ⟨st1, bs1, cp1, wt1, b2, c2, wt2⟩ => [w11.drew, wt1, wt2, wt2, wt2]) (w11.drew) (fun e ⟨st1, bs1, cp1, wt1, b2, c2, wt2⟩ => hAt [True, (st1.length = i ∧ ∀ s l, st1 = s :: l → s.1 = x) ∧ (Blk wt1 cb 77 (#[.pointer (some ⟨x.b, 0, none⟩), .slice bs1 st1.length cp1, .pointer (some ⟨ta.b, 0, none⟩), .int .i64 0])) ∧ (OwnV wt1 122 3 (.slice bs1 st1.length cp1) st1.length (ways st1)) ∧ (Ext [cb] (w11.drew) wt1) ∧ True, (st1.length = i ∧ ∀ s l, st1 = s :: l → s.1 = x) ∧ (Blk wt1 cb 77 (#[.pointer (some ⟨x.b, 0, none⟩), .slice bs1 st1.length cp1, .pointer (some ⟨ta.b, 0, none⟩), .int .i64 0])) ∧ (OwnV wt1 122 3 (.slice bs1 st1.length cp1) st1.length (ways st1)) ∧ (Ext [cb] (w11.drew) wt1) ∧ (Ext [] wt1 wt2) ∧ True, (st1.length = i ∧ ∀ s l, st1 = s :: l → s.1 = x) ∧ (Blk wt1 cb 77 (#[.pointer (some ⟨x.b, 0, none⟩), .slice bs1 st1.length cp1, .pointer (some ⟨ta.b, 0, none⟩), .int .i64 0])) ∧ (OwnV wt1 122 3 (.slice bs1 st1.length cp1) st1.length (ways st1)) ∧ (Ext [cb] (w11.drew) wt1) ∧ (Ext [] wt1 wt2) ∧ True, (st1.length = i ∧ ∀ s l, st1 = s :: l → s.1 = x) ∧ (Blk wt1 cb 77 (#[.pointer (some ⟨x.b, 0, none⟩), .slice bs1 st1.length cp1, .pointer (some ⟨ta.b, 0, none⟩), .int .i64 0])) ∧ (OwnV wt1 122 3 (.slice bs1 st1.length cp1) st1.length (ways st1)) ∧ (Ext [cb] (w11.drew) wt1) ∧ (Ext [] wt1 wt2) ∧ True] e) (fun ⟨st1, bs1, cp1, wt1, b2, c2, wt2⟩ w' => [(0, [w'.cell? ⟨kb, 0, none⟩ = some (.int .i64 ((i + 1 : Nat) : Int))]), (2, [Value.int .i64 (IntKind.i64.wrap (↑i + 1)) = .int .i64 (↑i + 1)]), (3, [Value.bool (((((i + 1 : Nat) : Int) : Int) != (↑i + 1))) = .bool false]), (20, [Value.bool (((↑st1.length : Int) != ↑i)) = .bool false]), (34, [w'.cell? ⟨ab, 0, none⟩ = some (.pointer (some ⟨ta.b, 0, none⟩))]), (35, [Sem.run Try.prog (vS (do eqGuard .neq 47 (.tmp 131) (.tmp 132) (.pointer (some ⟨ta.b, 0, none⟩)) (.pointer (some ⟨ta.b, 0, none⟩)); binOp .neq 47 (.pointer (some ⟨ta.b, 0, none⟩)) (.pointer (some ⟨ta.b, 0, none⟩)))) w' = .ok (.value (.bool false)) w'])]) (([]), none, 0, w11.drew, none, 0, w11) [0, 2, 4, 5, 10, 13] hS (by kernel_rfl) (by kernel_rfl) (by kernel_rfl) (by kernel_rfl) (fun ⟨st1, bs1, cp1, wt1, b2, c2, wt2⟩ _ => by kernel_rfl) (by kernel_rfl) (by kernel_rfl) (by kernel_rfl) trivial ?_ (by kernel_rfl) ?_ ?_
      · rintro e ⟨st1, bs1, cp1, wt1, b2, c2, wt2⟩ w' hw hH
        have ho0 : 0 ≤ e → e ≤ 0 → AllP [w'.cell? ⟨kb, 0, none⟩ = some (.int .i64 ((i + 1 : Nat) : Int))] := fun h1 h2 => by
          obtain rfl : e = 0 := by omega
          have hwe : w11.drew = w' := (hw.trans (by kernel_rfl)).symm
          subst hwe
          clear hH
          exact (.cons ((hB125.drew : Blk w11.drew kb 3 (#[.int .i64 ((i + 1 : Nat) : Int)])).cell 0 rfl) .nil)
        have ho2 : 0 ≤ e → e ≤ 0 → AllP [Value.int .i64 (IntKind.i64.wrap (↑i + 1)) = .int .i64 (↑i + 1)] := fun h1 h2 => by
          obtain rfl : e = 0 := by omega
          have hwe : w11.drew = w' := (hw.trans (by kernel_rfl)).symm
          subst hwe
          clear hH
          exact (.cons (as_i64 (by omega)) .nil)
        have ho3 : 0 ≤ e → e ≤ 0 → AllP [Value.bool (((((i + 1 : Nat) : Int) : Int) != (↑i + 1))) = .bool false] := fun h1 h2 => by
          obtain rfl : e = 0 := by omega
          have hwe : w11.drew = w' := (hw.trans (by kernel_rfl)).symm
          subst hwe
          clear hH
          exact (.cons (as_ne_f (by omega)) .nil)
        have ho20 : 2 ≤ e → e ≤ 2 → AllP [Value.bool (((↑st1.length : Int) != ↑i)) = .bool false] := fun h1 h2 => by
          obtain rfl : e = 2 := by omega
          have hwe : wt2 = w' := (hw.trans (by kernel_rfl)).symm
          subst hwe
          obtain ⟨hs1, hcb1, hv1, hE1, hE2, _⟩ := hH
          exact (.cons (as_ne_f (by omega)) .nil)
        have ho34 : 3 ≤ e → e ≤ 4 → AllP [w'.cell? ⟨ab, 0, none⟩ = some (.pointer (some ⟨ta.b, 0, none⟩))] := fun h1 h2 => by
          have he : e = 3 ∨ e = 4 := by omega
          rcases he with rfl | rfl
          · have hwe : wt2 = w' := (hw.trans (by kernel_rfl)).symm
            subst hwe
            obtain ⟨hs1, hcb1, hv1, hE1, hE2, _⟩ := hH
            exact (.cons ((((hB126.drew : Blk w11.drew ab 47 (#[.pointer (some ⟨ta.b, 0, none⟩)])).ext hE1 (by simpa using (hB126.drew : Blk w11.drew ab 47 (#[.pointer (some ⟨ta.b, 0, none⟩)])).ne_type (hcb11.drew : Blk w11.drew cb 77 (#[.pointer (some ⟨x.b, 0, none⟩), .slice none 0 0, .pointer (some ⟨x.b, 0, none⟩), .int .i64 0])) (by decide))).ext hE2 (by simp) : Blk wt2 ab 47 (#[.pointer (some ⟨ta.b, 0, none⟩)])).cell 0 rfl) .nil)
          · have hwe : wt2 = w' := (hw.trans (by kernel_rfl)).symm
            subst hwe
            obtain ⟨hs1, hcb1, hv1, hE1, hE2, _⟩ := hH
            exact (.cons ((((hB126.drew : Blk w11.drew ab 47 (#[.pointer (some ⟨ta.b, 0, none⟩)])).ext hE1 (by simpa using (hB126.drew : Blk w11.drew ab 47 (#[.pointer (some ⟨ta.b, 0, none⟩)])).ne_type (hcb11.drew : Blk w11.drew cb 77 (#[.pointer (some ⟨x.b, 0, none⟩), .slice none 0 0, .pointer (some ⟨x.b, 0, none⟩), .int .i64 0])) (by decide))).ext hE2 (by simp) : Blk wt2 ab 47 (#[.pointer (some ⟨ta.b, 0, none⟩)])).cell 0 rfl) .nil)
        have ho35 : 4 ≤ e → e ≤ 4 → AllP [Sem.run Try.prog (vS (do eqGuard .neq 47 (.tmp 131) (.tmp 132) (.pointer (some ⟨ta.b, 0, none⟩)) (.pointer (some ⟨ta.b, 0, none⟩)); binOp .neq 47 (.pointer (some ⟨ta.b, 0, none⟩)) (.pointer (some ⟨ta.b, 0, none⟩)))) w' = .ok (.value (.bool false)) w'] := fun h1 h2 => by
          obtain rfl : e = 4 := by omega
          have hwe : wt2 = w' := (hw.trans (by kernel_rfl)).symm
          subst hwe
          obtain ⟨hs1, hcb1, hv1, hE1, hE2, _⟩ := hH
          exact (.cons (bin_ptr_neq (E := 106) (by kernel_rfl) ⟨12, by kernel_rfl⟩ (((hB129.drew : Blk w11.drew ta.b 106 (#[.pointer (some ⟨sb, 0, none⟩), .int .i64 ta.num, .int .i64 ta.kd, .int .i64 ta.nn, .int .i64 ta.lk, .int .i64 ta.ls, .int .i64 ta.ll, .int .i64 ta.lr, ta.ks, .int .i64 ta.wd, .int .i64 ta.lf, .int .i64 ta.tt, .bool ta.fl])).ext hE1 (by simpa using (hB129.drew : Blk w11.drew ta.b 106 (#[.pointer (some ⟨sb, 0, none⟩), .int .i64 ta.num, .int .i64 ta.kd, .int .i64 ta.nn, .int .i64 ta.lk, .int .i64 ta.ls, .int .i64 ta.ll, .int .i64 ta.lr, ta.ks, .int .i64 ta.wd, .int .i64 ta.lf, .int .i64 ta.tt, .bool ta.fl])).ne_type (hcb11.drew : Blk w11.drew cb 77 (#[.pointer (some ⟨x.b, 0, none⟩), .slice none 0 0, .pointer (some ⟨x.b, 0, none⟩), .int .i64 0])) (by decide))).ext hE2 (by simp)) (((hB129.drew : Blk w11.drew ta.b 106 (#[.pointer (some ⟨sb, 0, none⟩), .int .i64 ta.num, .int .i64 ta.kd, .int .i64 ta.nn, .int .i64 ta.lk, .int .i64 ta.ls, .int .i64 ta.ll, .int .i64 ta.lr, ta.ks, .int .i64 ta.wd, .int .i64 ta.lf, .int .i64 ta.tt, .bool ta.fl])).ext hE1 (by simpa using (hB129.drew : Blk w11.drew ta.b 106 (#[.pointer (some ⟨sb, 0, none⟩), .int .i64 ta.num, .int .i64 ta.kd, .int .i64 ta.nn, .int .i64 ta.lk, .int .i64 ta.ls, .int .i64 ta.ll, .int .i64 ta.lr, ta.ks, .int .i64 ta.wd, .int .i64 ta.lf, .int .i64 ta.tt, .bool ta.fl])).ne_type (hcb11.drew : Blk w11.drew cb 77 (#[.pointer (some ⟨x.b, 0, none⟩), .slice none 0 0, .pointer (some ⟨x.b, 0, none⟩), .int .i64 0])) (by decide))).ext hE2 (by simp)) (by simp)) .nil)
        exact (.cons (fun h1 h2 => ho0 h1 h2) (.cons (fun h1 h2 => ho2 h1 h2) (.cons (fun h1 h2 => ho3 h1 h2) (.cons (fun h1 h2 => ho20 h1 h2) (.cons (fun h1 h2 => ho34 h1 h2) (.cons (fun h1 h2 => ho35 h1 h2) .nil))))))
      · refine (.cons ?eq132_10 (.cons ?eq132_17 (.cons ?eq132_26 (.cons ?eq132_33 .nil))))
        · rintro ⟨st1, bs1, cp1, wt1, b2, c2, wt2⟩ hH
          clear hH
          refine eff_gh (w11.drew) (by kernel_rfl) ?_
          refine upon_call (f := 38) (vs := [.pointer (some ⟨cb, 0, none⟩), .int .i64 0]) (cap := #[]) (d := (some 108)) (by kernel_rfl) Try.call38 #[.pointer (some ⟨cb, 0, none⟩), .int .i64 0] (by kernel_rfl) (To_in (hx11.ext ((Ext.refl [] _).drew) x (by simp)) (hcb11.drew : Blk w11.drew cb 77 (#[.pointer (some ⟨x.b, 0, none⟩), .slice none 0 0, .pointer (some ⟨x.b, 0, none⟩), .int .i64 0])) (by omega)) ?_
          rintro _ wt1 ⟨st1, c1, p1, bs1, cp1, rfl, hR1, hcb1, hv1, hE1, _, hl1⟩
          exact ⟨_, rfl, ⟨(st1, bs1, cp1, wt1, b2, c2, wt2), by kernel_rfl, by kernel_rfl, by kernel_rfl, ⟨(by have h := chain_to0 hone i x hch hx11 0 _ _ _ hR1 (by omega) (by omega); exact ⟨h.1, h.2.2.2⟩), (by obtain ⟨_, e2, e3, _⟩ := chain_to0 hone i x hch hx11 0 _ _ _ hR1 (by omega) (by omega); rw [e2, e3] at hcb1; exact hcb1), hv1, hE1, trivial⟩⟩⟩
        · rintro ⟨st1, bs1, cp1, wt1, b2, c2, wt2⟩ hH
          obtain ⟨hs1, hcb1, hv1, hE1, _⟩ := hH
          refine eff_gh (wt1) (by kernel_rfl) ?_
          refine upon_call (f := 39) (vs := [.pointer (some ⟨cb, 0, none⟩)]) (cap := #[]) (d := (some 115)) (by kernel_rfl) Try.call39 #[.pointer (some ⟨cb, 0, none⟩)] (by kernel_rfl) (Path_any (hcb1 : Blk wt1 cb 77 (#[.pointer (some ⟨x.b, 0, none⟩), .slice bs1 st1.length cp1, .pointer (some ⟨ta.b, 0, none⟩), .int .i64 0])) (hv1 : OwnV wt1 122 3 (.slice bs1 st1.length cp1) st1.length (ways st1)) (by omega)) ?_
          rintro _ wt2 ⟨b2, c2, rfl, _, hE2, _⟩
          exact ⟨_, rfl, ⟨(st1, bs1, cp1, wt1, b2, c2, wt2), by kernel_rfl, by kernel_rfl, by kernel_rfl, ⟨hs1, hcb1, hv1, hE1, hE2, trivial⟩⟩⟩
        · rintro ⟨st1, bs1, cp1, wt1, b2, c2, wt2⟩ hH
          obtain ⟨hs1, hcb1, hv1, hE1, hE2, _⟩ := hH
          refine eff_gh (wt2) (by kernel_rfl) ?_
          refine upon_call (f := 40) (vs := [.pointer (some ⟨cb, 0, none⟩)]) (cap := #[]) (d := (some 124)) (by kernel_rfl) Try.call40 #[.pointer (some ⟨cb, 0, none⟩)] (by kernel_rfl) (Offset_any ((hcb1).ext hE2 (by simp) : Blk wt2 cb 77 (#[.pointer (some ⟨x.b, 0, none⟩), .slice bs1 st1.length cp1, .pointer (some ⟨ta.b, 0, none⟩), .int .i64 0]))) ?_
          rintro _ wq ⟨rfl, hwq⟩
          rw [hwq]
          exact ⟨_, rfl, ⟨(st1, bs1, cp1, wt1, b2, c2, wt2), by kernel_rfl, by kernel_rfl, by kernel_rfl, ⟨hs1, hcb1, hv1, hE1, hE2, trivial⟩⟩⟩
        · rintro ⟨st1, bs1, cp1, wt1, b2, c2, wt2⟩ hH
          obtain ⟨hs1, hcb1, hv1, hE1, hE2, _⟩ := hH
          refine eff_gh (wt2) (by kernel_rfl) ?_
          refine upon_call (f := 41) (vs := [.pointer (some ⟨cb, 0, none⟩)]) (cap := #[]) (d := (some 131)) (by kernel_rfl) Try.call41 #[.pointer (some ⟨cb, 0, none⟩)] (by kernel_rfl) (PNode_any ((hcb1).ext hE2 (by simp) : Blk wt2 cb 77 (#[.pointer (some ⟨x.b, 0, none⟩), .slice bs1 st1.length cp1, .pointer (some ⟨ta.b, 0, none⟩), .int .i64 0]))) ?_
          rintro _ wq ⟨rfl, hwq⟩
          rw [hwq]
          exact ⟨_, rfl, ⟨(st1, bs1, cp1, wt1, b2, c2, wt2), by kernel_rfl, by kernel_rfl, by kernel_rfl, ⟨hs1, hcb1, hv1, hE1, hE2, trivial⟩⟩⟩
      rintro ⟨st1, bs1, cp1, wt1, b2, c2, wt2⟩ a w133 hS hw134 hH
      obtain ⟨hs1, hcb1, hv1, hE1, hE2, _⟩ := hH
      replace hw134 : w133 = wt2 := hw134.trans (by kernel_rfl)
      have hB135 : Blk w133 kb 3 (#[.int .i64 ((i + 1 : Nat) : Int)]) := by rw [hw134]; exact ((hB125.drew : Blk w11.drew kb 3 (#[.int .i64 ((i + 1 : Nat) : Int)])).ext hE1 (by simpa using (hB125.drew : Blk w11.drew kb 3 (#[.int .i64 ((i + 1 : Nat) : Int)])).ne_type (hcb11.drew : Blk w11.drew cb 77 (#[.pointer (some ⟨x.b, 0, none⟩), .slice none 0 0, .pointer (some ⟨x.b, 0, none⟩), .int .i64 0])) (by decide))).ext hE2 (by simp)
      have hB136 : Blk w133 ab 47 (#[.pointer (some ⟨ta.b, 0, none⟩)]) := by rw [hw134]; exact ((hB126.drew : Blk w11.drew ab 47 (#[.pointer (some ⟨ta.b, 0, none⟩)])).ext hE1 (by simpa using (hB126.drew : Blk w11.drew ab 47 (#[.pointer (some ⟨ta.b, 0, none⟩)])).ne_type (hcb11.drew : Blk w11.drew cb 77 (#[.pointer (some ⟨x.b, 0, none⟩), .slice none 0 0, .pointer (some ⟨x.b, 0, none⟩), .int .i64 0])) (by decide))).ext hE2 (by simp)
      have hB137 : Blk w133 rb 4 (#[.bool false]) := by rw [hw134]; exact ((hB127.drew : Blk w11.drew rb 4 (#[.bool false])).ext hE1 (by simpa using (hB127.drew : Blk w11.drew rb 4 (#[.bool false])).ne_type (hcb11.drew : Blk w11.drew cb 77 (#[.pointer (some ⟨x.b, 0, none⟩), .slice none 0 0, .pointer (some ⟨x.b, 0, none⟩), .int .i64 0])) (by decide))).ext hE2 (by simp)
      have hB138 : Blk w133 x.b 106 (#[.pointer (some ⟨sb, 0, none⟩), .int .i64 x.num, .int .i64 x.kd, .int .i64 x.nn, .int .i64 x.lk, .int .i64 x.ls, .int .i64 x.ll, .int .i64 x.lr, x.ks, .int .i64 x.wd, .int .i64 x.lf, .int .i64 x.tt, .bool false]) := by rw [hw134]; exact ((hB128.drew : Blk w11.drew x.b 106 (#[.pointer (some ⟨sb, 0, none⟩), .int .i64 x.num, .int .i64 x.kd, .int .i64 x.nn, .int .i64 x.lk, .int .i64 x.ls, .int .i64 x.ll, .int .i64 x.lr, x.ks, .int .i64 x.wd, .int .i64 x.lf, .int .i64 x.tt, .bool false])).ext hE1 (by simpa using (hB128.drew : Blk w11.drew x.b 106 (#[.pointer (some ⟨sb, 0, none⟩), .int .i64 x.num, .int .i64 x.kd, .int .i64 x.nn, .int .i64 x.lk, .int .i64 x.ls, .int .i64 x.ll, .int .i64 x.lr, x.ks, .int .i64 x.wd, .int .i64 x.lf, .int .i64 x.tt, .bool false])).ne_type (hcb11.drew : Blk w11.drew cb 77 (#[.pointer (some ⟨x.b, 0, none⟩), .slice none 0 0, .pointer (some ⟨x.b, 0, none⟩), .int .i64 0])) (by decide))).ext hE2 (by simp)
      have hB139 : Blk w133 ta.b 106 (#[.pointer (some ⟨sb, 0, none⟩), .int .i64 ta.num, .int .i64 ta.kd, .int .i64 ta.nn, .int .i64 ta.lk, .int .i64 ta.ls, .int .i64 ta.ll, .int .i64 ta.lr, ta.ks, .int .i64 ta.wd, .int .i64 ta.lf, .int .i64 ta.tt, .bool ta.fl]) := by rw [hw134]; exact ((hB129.drew : Blk w11.drew ta.b 106 (#[.pointer (some ⟨sb, 0, none⟩), .int .i64 ta.num, .int .i64 ta.kd, .int .i64 ta.nn, .int .i64 ta.lk, .int .i64 ta.ls, .int .i64 ta.ll, .int .i64 ta.lr, ta.ks, .int .i64 ta.wd, .int .i64 ta.lf, .int .i64 ta.tt, .bool ta.fl])).ext hE1 (by simpa using (hB129.drew : Blk w11.drew ta.b 106 (#[.pointer (some ⟨sb, 0, none⟩), .int .i64 ta.num, .int .i64 ta.kd, .int .i64 ta.nn, .int .i64 ta.lk, .int .i64 ta.ls, .int .i64 ta.ll, .int .i64 ta.lr, ta.ks, .int .i64 ta.wd, .int .i64 ta.lf, .int .i64 ta.tt, .bool ta.fl])).ne_type (hcb11.drew : Blk w11.drew cb 77 (#[.pointer (some ⟨x.b, 0, none⟩), .slice none 0 0, .pointer (some ⟨x.b, 0, none⟩), .int .i64 0])) (by decide))).ext hE2 (by simp)
      have hB140 : Blk w133 cb 77 (#[.pointer (some ⟨x.b, 0, none⟩), .slice bs1 st1.length cp1, .pointer (some ⟨ta.b, 0, none⟩), .int .i64 0]) := by rw [hw134]; exact (hcb1).ext hE2 (by simp)
      have hB141 : OwnV w133 122 3 (.slice bs1 st1.length cp1) st1.length (ways st1) := by rw [hw134]; exact (hv1).ext hE2 (by simp)
      have hE142 : Ext [rb] w10 w133 := by rw [hw134]; exact ((hE124.drew).trans hE1 (by intro b hb; obtain rfl := (by simpa using hb : b = cb); exact .inr hcbn)).trans0 hE2
      replace hS := hS.keepTo [0, 2, 4, 5, 10, 13, 134] (m' := [(0, .int .i64 ↑i), (2, .pointer (some ⟨rb, 0, none⟩)), (4, .pointer (some ⟨ab, 0, none⟩)), (5, .pointer (some ⟨x.b, 0, none⟩)), (10, .pointer (some ⟨kb, 0, none⟩)), (13, .pointer (some ⟨cb, 0, none⟩)), (134, .bool false)]) (by kernel_rfl)
      refine hK131 _ _ ?_
      refine cond_f hS rfl ?_
      refine wpIn_skip ?_
      refine hK130 _ _ ?_
      refine wpIn_seq_k fun K143 hK143 => ?_
      refine wpIn_seq_k fun K144 hK144 => ?_
      refine region 1 (by kernel_rfl) ?_
      refine seg wide_wide [.p] [0, 2, 4, 5, 10, 13, 134, 14] [] [(0, .int .i64 ↑i), (2, .pointer (some ⟨rb, 0, none⟩)), (4, .pointer (some ⟨ab, 0, none⟩)), (5, .pointer (some ⟨x.b, 0, none⟩)), (10, .pointer (some ⟨kb, 0, none⟩)), (13, .pointer (some ⟨cb, 0, none⟩)), (134, .bool false), (14, .int .i64 0)] 1 0 hS (by kernel_rfl) (by kernel_rfl) (by kernel_rfl) .nil fun a hS => ?_
      refine seg_end ?_
      refine hK144 _ _ ?_
      refine wpIn_block ?_
      have hcb12 := hB140
      have hv12 := hB141
      have hE12 := hE142
      have hab12 := hB136
      have hNx12 := hB138
      have hrb12 := hB137
      refine loop_ghost (fun ((stk, rest, nb, z) : List Stp × List Stp × Nat × Int) a' w' => St 167 ([w99.heap.size].map dmark) [(0, .int .i64 ↑i), (2, .pointer (some ⟨rb, 0, none⟩)), (5, .pointer (some ⟨x.b, 0, none⟩)), (13, .pointer (some ⟨cb, 0, none⟩)), (14, .int .i64 ↑rest.length)] a' ∧ Blk w' cb 77 (#[.pointer (some ⟨x.b, 0, none⟩), .slice bs1 stk.length cp1, .pointer (some ⟨nb, 0, none⟩), .int .i64 z]) ∧ OwnV w' 122 3 (.slice bs1 stk.length cp1) stk.length (ways stk) ∧ st1 = stk ++ rest ∧ Ext [cb] w133 w' ∧ (∀ s l, rest = s :: l → nb = s.1.b)) (fun ((stk, rest, nb, z) : List Stp × List Stp × Nat × Int) => stk.length) (st1, [], ta.b, 0) ⟨hS.keepTo [0, 2, 5, 13, 14] (by kernel_rfl), hcb12, hv12, by simp, Ext.refl _ _, fun s l h => by cases h⟩ ?_
      rintro ⟨stk, rest, nb, z⟩ a w13 ⟨hS, hcb13, hv13, hst13, hE13, hnb13⟩
      have hlen13 : st1.length = stk.length + rest.length := by rw [hst13]; simp
      have hE1013 : Ext [rb] w10 w13 := hE12.trans hE13 (by intro b hb; obtain rfl := (by simpa using hb : b = cb); exact .inr hcbn)
      have hncb : ∀ {T : TypeId} {cs : Array Value} {b : Nat}, Blk w133 b T cs → T ≠ 77 → b ∉ [cb] := fun h1 h2 hm => by
        obtain rfl := (by simpa using hm : _ = cb)
        exact h2 (h1.same hcb12).1
      have hNx13 := hNx12.ext hE13 (hncb hNx12 (by decide))
      have hrb13 := hrb12.ext hE13 (hncb hrb12 (by decide))
      refine wpIn_seq_k fun K145 hK145 => ?_
      refine wpIn_seq_k fun K146 hK146 => ?_
      refine region 3 (by kernel_rfl) ?_
      refine seg wide_wide [.p, .p, .p] [0, 2, 5, 13, 14, 137] [] [(0, .int .i64 ↑i), (2, .pointer (some ⟨rb, 0, none⟩)), (5, .pointer (some ⟨x.b, 0, none⟩)), (13, .pointer (some ⟨cb, 0, none⟩)), (14, .int .i64 ↑rest.length), (137, .bool (decide ((↑rest.length : Int) < ↑i)))] 3 0 hS (by kernel_rfl) (by kernel_rfl) (by kernel_rfl) .nil fun a hS => ?_
      refine seg_end ?_
      refine hK146 _ _ ?_
      refine cond_b hS rfl (fun hb147 => ?_) (fun hb147 => ?_)
      · -- decide ((↑rest.length : Int) < ↑i) is true
        replace hb147 := of_decide_eq_true hb147
        obtain ⟨stk', s, rfl⟩ : ∃ stk' s, stk = stk' ++ [s] := by
          rcases List.eq_nil_or_concat stk with h | ⟨l, b, h⟩
          · rw [h] at hlen13; simp at hlen13; omega
          · exact ⟨l, b, by rw [h, List.concat_eq_append]⟩
        have hcbu : Blk w13 cb 77 #[.pointer (some ⟨x.b, 0, none⟩), .slice bs1 (stk'.length + 1) cp1, .pointer (some ⟨nb, 0, none⟩), .int .i64 z] := by simpa using hcb13
        have hvu : OwnV w13 122 3 (.slice bs1 (stk'.length + 1) cp1) (stk'.length + 1) (ways stk' ++ stepc s) := by simpa [ways_append, ways] using hv13
        simp only [List.length_append, List.length_cons, List.length_nil] at hlen13
        refine wpIn_skip ?_
        refine hK145 _ _ ?_
        refine wpIn_seq_k fun K148 hK148 => ?_
        refine wpIn_block ?_
        refine wpIn_seq_k fun K149 hK149 => ?_
        refine region 3 (by kernel_rfl) ?_
        refine seg wide_wide [.p] [0, 2, 5, 13, 14, 140] [] [(0, .int .i64 ↑i), (2, .pointer (some ⟨rb, 0, none⟩)), (5, .pointer (some ⟨x.b, 0, none⟩)), (13, .pointer (some ⟨cb, 0, none⟩)), (14, .int .i64 ↑rest.length), (140, .pointer (some ⟨cb, 0, none⟩))] 1 2 hS (by kernel_rfl) (by kernel_rfl) (by kernel_rfl) .nil fun a hS => ?_
        refine eff_call wide_wide (r := 1) (f := 42) (vs := [.pointer (some ⟨cb, 0, none⟩)]) (cap := #[]) (d := (some 141)) hS (by kernel_rfl) Try.call42 #[.pointer (some ⟨cb, 0, none⟩)] (by kernel_rfl) (Up_1 hcbu hvu (by omega)) ?_
        rintro _ wu ⟨rfl, hcbu2, hvu2, hEu⟩
        refine ⟨_, rfl, fun a hS => ?_⟩
        refine seg wide_wide [.p] [0, 2, 5, 13, 14, 142] [] [(0, .int .i64 ↑i), (2, .pointer (some ⟨rb, 0, none⟩)), (5, .pointer (some ⟨x.b, 0, none⟩)), (13, .pointer (some ⟨cb, 0, none⟩)), (14, .int .i64 ↑rest.length), (142, .bool false)] 3 0 hS (by kernel_rfl) (by kernel_rfl) (by kernel_rfl) .nil fun a hS => ?_
        refine seg_end ?_
        refine hK149 _ _ ?_
        refine cond_f hS rfl ?_
        refine wpIn_skip ?_
        refine inBlock_normal ?_
        refine hK148 _ _ ?_
        refine region 3 (by kernel_rfl) ?_
        refine seg wide_wide [.p, .as (.int .i64 (↑rest.length + 1)), .p] [0, 2, 5, 13, 14, 142] [Value.int .i64 (IntKind.i64.wrap (↑rest.length + 1)) = .int .i64 (↑rest.length + 1)] [(0, .int .i64 ↑i), (2, .pointer (some ⟨rb, 0, none⟩)), (5, .pointer (some ⟨x.b, 0, none⟩)), (13, .pointer (some ⟨cb, 0, none⟩)), (14, .int .i64 (↑rest.length + 1)), (142, .bool false)] 3 0 hS (by kernel_rfl) (by kernel_rfl) (by kernel_rfl) (.cons (as_i64 (by omega)) .nil) fun a hS => ?_
        refine seg_end ?_
        exact ⟨(stk', s :: rest, s.1.b, lastB stk'), ⟨hS.keepTo [0, 2, 5, 13, 14] (by kernel_rfl), hcbu2, hvu2, by rw [hst13]; simp, hE13.trans hEu (by simp), fun s' l' h => by simp at h; rw [h.1]⟩, by simp⟩
      · -- decide ((↑rest.length : Int) < ↑i) is false
        replace hb147 := of_decide_eq_false hb147
        obtain rfl : stk = [] := List.eq_nil_of_length_eq_zero (by omega)
        obtain ⟨s0, l0, hr0⟩ : ∃ s0 l0, rest = s0 :: l0 := by
          cases rest with
          | nil => exfalso; simp only [List.length_nil] at hlen13; omega
          | cons s0 l0 => exact ⟨s0, l0, rfl⟩
        have hnbx : nb = x.b := by rw [hnb13 s0 l0 hr0, hs1.2 s0 l0 (by rw [hst13, hr0]; rfl)]
        subst hnbx
        have hcbz : Blk w13 cb 77 #[.pointer (some ⟨x.b, 0, none⟩), .slice bs1 0 cp1, .pointer (some ⟨x.b, 0, none⟩), .int .i64 z] := hcb13
        refine wpIn_exit ?_
        refine then_exit ?_
        refine then_exit ?_
        refine inBlock_hit ?_
        refine hK143 _ _ ?_
        refine wpIn_seq_k fun K150 hK150 => ?_
        refine region 25 (by kernel_rfl) ?_
        refine seg wide_wide [.p] [0, 2, 5, 13, 143] [] [(0, .int .i64 ↑i), (2, .pointer (some ⟨rb, 0, none⟩)), (5, .pointer (some ⟨x.b, 0, none⟩)), (13, .pointer (some ⟨cb, 0, none⟩)), (143, .pointer (some ⟨cb, 0, none⟩))] 1 24 hS (by kernel_rfl) (by kernel_rfl) (by kernel_rfl) .nil fun a hS => ?_
        refine eff_call_ro wide_wide (r := 23) (f := 42) (vs := [.pointer (some ⟨cb, 0, none⟩)]) (cap := #[]) (d := (some 144)) (v := Value.bool false) hS (by kernel_rfl) Try.call42 #[.pointer (some ⟨cb, 0, none⟩)] (by kernel_rfl) (Up_0 hcbz) fun a hS => ?_
        refine seg wide_wide [.p, .p, .p, .p, .p] [0, 2, 5, 13, 146, 149] [] [(0, .int .i64 ↑i), (2, .pointer (some ⟨rb, 0, none⟩)), (5, .pointer (some ⟨x.b, 0, none⟩)), (13, .pointer (some ⟨cb, 0, none⟩)), (146, .bool true), (149, .pointer (some ⟨cb, 0, none⟩))] 7 18 hS (by kernel_rfl) (by kernel_rfl) (by kernel_rfl) .nil fun a hS => ?_
        refine eff_call_ro wide_wide (r := 17) (f := 41) (vs := [.pointer (some ⟨cb, 0, none⟩)]) (cap := #[]) (d := (some 150)) (v := Value.pointer (some ⟨x.b, 0, none⟩)) hS (by kernel_rfl) Try.call41 #[.pointer (some ⟨cb, 0, none⟩)] (by kernel_rfl) (PNode_any hcbz) fun a hS => ?_
        refine seg wide_wide [.p, .run (.bool true), .p, .p, .p, .p] [0, 2, 5, 13, 154, 155, 156] [Sem.run Try.prog (vS (do eqGuard .eql 47 (.tmp 150) (.tmp 151) (.pointer (some ⟨x.b, 0, none⟩)) (.pointer (some ⟨x.b, 0, none⟩)); binOp .eql 47 (.pointer (some ⟨x.b, 0, none⟩)) (.pointer (some ⟨x.b, 0, none⟩)))) w13 = .ok (.value (.bool true)) w13] [(0, .int .i64 ↑i), (2, .pointer (some ⟨rb, 0, none⟩)), (5, .pointer (some ⟨x.b, 0, none⟩)), (13, .pointer (some ⟨cb, 0, none⟩)), (154, .bool true), (155, .pointer (some ⟨cb, 0, none⟩)), (156, .int .i64 ↑i)] 14 11 hS (by kernel_rfl) (by kernel_rfl) (by kernel_rfl) (.cons (bin_ptr_eql (E := 106) (by kernel_rfl) ⟨12, by kernel_rfl⟩ hNx13 hNx13 (by simp)) .nil) fun a hS => ?_
        have hx13 := hx10.ext hE1013 x (by intro b hb; obtain rfl := (by simpa using hb : b = rb); exact hx10.not_foot hrb10 (by decide) (by decide))
        obtain ⟨n, hn⟩ : ∃ n, i = n + 1 := ⟨i - 1, by omega⟩
        refine eff_call wide_wide (r := 10) (f := 38) (vs := [.pointer (some ⟨cb, 0, none⟩), .int .i64 ↑i]) (cap := #[]) (d := (some 157)) hS (by kernel_rfl) Try.call38 #[.pointer (some ⟨cb, 0, none⟩), .int .i64 ↑i] (by kernel_rfl) (To_in hx13 hcbz (by omega)) ?_
        rintro _ wv ⟨st2, c2v, p2, bs2, cp2, rfl, hR2, hcb2, hv2, hE2v, _, hl2⟩
        refine ⟨_, rfl, fun a hS => ?_⟩
        have hs2 : st2.length = 1 := by
          subst hn
          refine chain_ton hone hch hx13 (st := st2) (c := c2v) (r := p2) ?_
          simpa using hR2
        have hE14 := hE1013.trans hE2v (by intro b hb; obtain rfl := (by simpa using hb : b = cb); exact .inr hcbn)
        have hncb3 : rb ∉ [cb] := by
          intro hm
          obtain rfl := (by simpa using hm : rb = cb)
          exact absurd (hrb13.same hcbz).1 (by decide)
        have hrb14 := hrb13.ext hE2v hncb3
        refine seg wide_wide [.p, .p, .p, .p, .p] [0, 2, 5, 13, 159, 162] [] [(0, .int .i64 ↑i), (2, .pointer (some ⟨rb, 0, none⟩)), (5, .pointer (some ⟨x.b, 0, none⟩)), (13, .pointer (some ⟨cb, 0, none⟩)), (159, .bool true), (162, .pointer (some ⟨cb, 0, none⟩))] 20 5 hS (by kernel_rfl) (by kernel_rfl) (by kernel_rfl) .nil fun a hS => ?_
        refine eff_call wide_wide (r := 4) (f := 39) (vs := [.pointer (some ⟨cb, 0, none⟩)]) (cap := #[]) (d := (some 163)) hS (by kernel_rfl) Try.call39 #[.pointer (some ⟨cb, 0, none⟩)] (by kernel_rfl) (Path_any hcb2 hv2 (by omega)) ?_
        rintro _ wx ⟨b3, c3, rfl, _, hE2w, _⟩
        refine ⟨_, rfl, fun a hS => ?_⟩
        have hE15 := hE14.trans0 hE2w
        have hB151 : Blk wx rb 4 (#[.bool false]) := hrb14.ext hE2w (by simp)
        have hB152 : Blk wx cb 77 (#[.pointer (some ⟨x.b, 0, none⟩), .slice bs2 st2.length cp2, .pointer (some ⟨c2v.b, 0, none⟩), .int .i64 p2]) := hcb2.ext hE2w (by simp)
        refine seg wide_wide [.p, .as (.bool true), .p] [0, 2, 5, 13, 166] [Value.bool (((↑st2.length : Int) == 1)) = .bool true] [(0, .int .i64 ↑i), (2, .pointer (some ⟨rb, 0, none⟩)), (5, .pointer (some ⟨x.b, 0, none⟩)), (13, .pointer (some ⟨cb, 0, none⟩)), (166, .bool true)] 24 1 hS (by kernel_rfl) (by kernel_rfl) (by kernel_rfl) (.cons (as_eq_t (by omega)) .nil) fun a hS => ?_
        refine eff_store wide_wide (r := 0) (b := rb) (off := 0) (vs := [.bool true]) hS (by kernel_rfl) hB151 (by simp) fun a w153 hw154 hS => ?_
        have hB155 : Blk w153 rb 4 (#[.bool true]) := by rw [hw154]; exact hB151.upd _ _
        have hB156 : Blk w153 cb 77 (#[.pointer (some ⟨x.b, 0, none⟩), .slice bs2 st2.length cp2, .pointer (some ⟨c2v.b, 0, none⟩), .int .i64 p2]) := by rw [hw154]; exact hB152.updNe (Blk.ne_type hB151 hB152 (by decide)) _ _
        have hE157 : Ext [rb] w10 w153 := by rw [hw154]; exact hE15.updIn (.inl (by simp)) _ _
        refine seg_end ?_
        refine hK150 _ _ ?_
        refine wpIn_ret ?_
        have hDD := hD10.ext hE157 (by intro hm; simp at hm; exact hD10.ne_blk hrb10 hm)
        refine retMc [w99.heap.size] (T' := 4) hS Try.results8 (by kernel_rfl) rfl hB155 (by intro D hD; simp at hD; subst hD; exact hDD) (by simp) fun w99 hE99 => ?_
        exact ⟨rfl, (hEw10.trans hE157 (by intro b hb; obtain rfl := (by simpa using hb : b = rb); exact .inr hrbn)).trans hE99 (by intro b hb; simp at hb; subst hb; exact .inr hE9.size)⟩
    · intro c pre Cx W a _ _ _ _ _ h; exact h.elim

end Go.Proofs.Ytpglmeeledmkoaa
