import Derived.Test.YtkkpghlcmcaoiaaDoorCl
import Derived.Test.YtkkpghlcmcaoiaaDoorS29
namespace Go.Proofs.YtkkpghlcmcaoiaaDoor
open Go.Vc Go.Gm

theorem within_true {w : World} {v u : Value} {n m : Nat} {xs ys : List Nat} (hv : RdV w 1 v n (ivs xs)) (hu : RdV w 1 u m (ivs ys)) (hn : n ≤ 1048576) (hm : m ≤ 1048576) (hin : ∀ x ∈ xs, x ∈ ys) :
  Calls Tryd.prog 37 #[v, u] w fun e w' => e = .returned (.bool true) ∧ Ext [] w w' := by
 have hlx : xs.length = n := by have := hv.len; rw [ivs_len] at this; omega
 refine calls_body 19 [(0, v), (1, u)] Tryd.func37 rfl (by kernel_rfl) (by kernel_rfl) (by kernel_rfl) fun a hS => ?_
 have hE0 : Ext [] w w := Ext.refl _ _
 refine sq fun K1 hK1 => rgn 1 <| sg ww [.p] [] [(0, v), (1, u), (4, .bool false)] 1 0 hS .nil fun a hS => seg_end <| hK1 _ _ <| sq fun K2 hK2 => sq fun K3 hK3 => rgn 1 <| sd ww [.p] [] [(5, I6 0)] [] 1 0 hS .nil fun a hS => seg_end <| hK3 _ _ <| wpIn_block ?_
 refine loop_ghost (fun (i : Nat) a' w' => St 19 [] [(0, v), (1, u), (5, I6 ↑i)] a' ∧ Ext [] w w' ∧ i ≤ n) (fun (i : Nat) => n - i) 0 ⟨hS.keepTo [0, 1, 5] (by kernel_rfl), hE0, by omega⟩ ?_
 rintro i a wl4 ⟨hS, hXl4, hi⟩
 refine sq fun K5 hK5 => sq fun K6 hK6 => rgn 4 <| sd ww [.p, .p, .run (I6 ↑n), .p] [Ru Tryd.prog (vS (Builtin.len_ #[51] 3 #[v])) (I6 ↑n) wl4] [(9, .bool (decide ((↑i : Int) < ↑n)))] [] 4 0 hS (.cons (run_len_rd (e := 3) hv (by kernel_rfl)) .nil) fun a hS => seg_end <| hK6 _ _ ?_
 refine cond_b hS rfl (fun hb7 => ?_) (fun hb7 => ?_)
 ·
  replace hb7 := of_decide_eq_true hb7
  obtain ⟨x, hx⟩ : ∃ x, xs[i]? = some x := ⟨_, List.getElem?_eq_getElem (by omega)⟩
  refine wpIn_skip <| hK5 _ _ <| sq fun K8 hK8 => wpIn_block <| sq fun K9 hK9 => rgn 7 <| sd ww [.p, .p, .p, .run ((Po (bof v) (oof v + i * 1))), .ld (I6 ↑x)] [Ru Tryd.prog (vS (Instr.indexAt 51 (v) (I6 ↑i))) ((Po (bof v) (oof v + i * 1))) wl4, wl4.cell? ⟨bof v, oof v + i * 1, none⟩ = some (I6 ↑x)] [(12, u), (16, I6 ↑x)] [] 5 2 hS (.cons (ix_rd (e := 3) (j := i) hv (by kernel_rfl) (by kernel_rfl) rfl (by omega)) (.cons ((hv.ext0 hXl4).cellAt (i * 1) (by omega) (ivs_at' hx)) .nil)) fun a hS => eff_call ww (r := 1) (f := 29) (vs := [u, I6 ↑x]) (cap := #[]) (d := (some 17)) hS (by kernel_rfl) Tryd.call29 #[u, I6 ↑x] (by kernel_rfl) (has_true (hin x (List.mem_of_getElem? hx)) (hu.ext0 hXl4) hm) ?_
  rintro _ wc10 ⟨rfl, hEc10⟩
  refine ⟨_, rfl, fun a hS => ?_⟩
  have hE11 := hXl4.trans0 hEc10
  refine sd ww [.p] [] [(18, .bool false)] [] 7 0 hS .nil fun a hS => seg_end <| hK9 _ _ ?_
  refine cond_f hS rfl ?_
  refine wpIn_skip <| inBlock_normal <| hK8 _ _ <| rgn 3 <| sd ww [.p, .as (I6 (↑i + 1)), .p] [Value.int .i64 (IntKind.i64.wrap (↑i + 1)) = I6 (↑i + 1)] [(5, I6 (↑i + 1))] [] 3 0 hS (.cons (as_i64 (by omega)) .nil) fun a hS => seg_end ?_
  exact ⟨i + 1, ⟨hS.kp [(0, v), (1, u), (5, I6 (↑i + 1))], hE11, by omega⟩, by omega⟩
 ·
  replace hb7 := of_decide_eq_false hb7
  refine wpIn_exit <| then_exit <| then_exit <| inBlock_hit <| hK2 _ _ <| sq fun K12 hK12 => rgn 1 <| sd ww [.p] [] [(4, .bool true)] [] 1 0 hS .nil fun a hS => seg_end <| hK12 _ _ <| wpIn_ret ?_
  refine ret1 hS Tryd.results37 rfl ?_
  exact ⟨rfl, hXl4⟩

theorem rise_at : ∀ {xs : List Nat} {i x y : Nat}, Rising xs → xs[i]? = some x → xs[i + 1]? = some y → x < y
 | [], _, _, _, _, h, _ => by simp at h
 | a :: xs, 0, x, y, hr, h1, h2 => by
  simp only [List.getElem?_cons_zero, Option.some.injEq] at h1
  rw [List.getElem?_cons_succ] at h2
  rw [← h1]
  exact (List.pairwise_cons.1 hr).1 y (List.mem_of_getElem? h2)
 | a :: xs, i + 1, x, y, hr, h1, h2 => by
  rw [List.getElem?_cons_succ] at h1 h2
  exact rise_at (xs := xs) (List.pairwise_cons.1 hr).2 h1 h2

theorem rising_true {w : World} {v : Value} {n : Nat} {xs : List Nat} (hv : RdV w 1 v n (ivs xs)) (hn : n ≤ 1048576) (hr : Rising xs) :
  Calls Tryd.prog 39 #[v] w fun e w' => e = .returned (.bool true) ∧ Ext [] w w' := by
 have hlx : xs.length = n := by have := hv.len; rw [ivs_len] at this; omega
 refine calls_body 20 [(0, v)] Tryd.func39 rfl (by kernel_rfl) (by kernel_rfl) (by kernel_rfl) fun a hS => ?_
 have hE0 : Ext [] w w := Ext.refl _ _
 refine sq fun K1 hK1 => rgn 1 <| sg ww [.p] [] [(0, v), (2, .bool false)] 1 0 hS .nil fun a hS => seg_end <| hK1 _ _ <| sq fun K2 hK2 => sq fun K3 hK3 => rgn 1 <| sg ww [.p] [] [(0, v), (2, .bool false), (3, I6 1)] 1 0 hS .nil fun a hS => seg_end <| hK3 _ _ <| wpIn_block ?_
 refine loop_ghost (fun (i : Nat) a' w' => St 20 [] [(0, v), (3, I6 ((i + 1 : Nat) : Int))] a' ∧ Ext [] w w' ∧ i ≤ n) (fun (i : Nat) => n - i) 0 ⟨hS.keepTo [0, 3] (by kernel_rfl), hE0, by omega⟩ ?_
 rintro i a wl4 ⟨hS, hXl4, hi⟩
 refine sq fun K5 hK5 => sq fun K6 hK6 => rgn 4 <| sd ww [.p, .p, .run (I6 ↑n), .p] [Ru Tryd.prog (vS (Builtin.len_ #[51] 3 #[v])) (I6 ↑n) wl4] [(7, .bool (decide ((((i + 1 : Nat) : Int) : Int) < ↑n)))] [] 4 0 hS (.cons (run_len_rd (e := 3) hv (by kernel_rfl)) .nil) fun a hS => seg_end <| hK6 _ _ ?_
 refine cond_b hS rfl (fun hb7 => ?_) (fun hb7 => ?_)
 ·
  replace hb7 := of_decide_eq_true hb7
  obtain ⟨x, hx⟩ : ∃ x, xs[i]? = some x := ⟨_, List.getElem?_eq_getElem (by omega)⟩
  obtain ⟨y, hy⟩ : ∃ y, xs[i + 1]? = some y := ⟨_, List.getElem?_eq_getElem (by omega)⟩
  have hxy := rise_at hr hx hy
  refine wpIn_skip <| hK5 _ _ <| sq fun K8 hK8 => wpIn_block <| sq fun K9 hK9 => ?_
  refine region_fn2 ww [.q .p, .q .p, .q (.run ((Po (bof v) (oof v + (i + 1) * 1)))), .q (.ld (I6 ↑y)), .q .p, .q .p, .q (.as (I6 ↑i)), .q (.run ((Po (bof v) (oof v + i * 1)))), .q (.ld (I6 ↑x)), .q (.as (.bool false))] [0, 0, 0, 0, 0, 0, 0, 0, 0, 0] [0, 0, 0, 0, 0, 0, 0, 0, 0, 0] [0, 0, 3, 7, 0, 0, 32, 112, 240, 511] [] 0 ([(0, v), (3, I6 ((i + 1 : Nat) : Int)), (7, .bool (decide ((((i + 1 : Nat) : Int) : Int) < ↑n))), (10, v), (11, I6 ((i + 1 : Nat) : Int)), (12, (Po (bof v) (oof v + (i + 1) * 1))), (13, I6 ↑y), (14, v), (15, I6 ((i + 1 : Nat) : Int)), (16, I6 ↑i), (17, (Po (bof v) (oof v + i * 1))), (18, I6 ↑x), (19, .bool false)]) [wl4.drew] wl4.drew (fun w' => [(2, [Ru Tryd.prog (vS (Instr.indexAt 51 (v) (I6 ((i + 1 : Nat) : Int)))) ((Po (bof v) (oof v + (i + 1) * 1))) w']), (3, [w'.cell? ⟨bof v, oof v + (i + 1) * 1, none⟩ = some (I6 ↑y)]), (6, [Value.int .i64 (IntKind.i64.wrap (((i + 1 : Nat) : Int) - 1)) = I6 ↑i]), (7, [Ru Tryd.prog (vS (Instr.indexAt 51 (v) (I6 ↑i))) ((Po (bof v) (oof v + i * 1))) w']), (8, [w'.cell? ⟨bof v, oof v + i * 1, none⟩ = some (I6 ↑x)]), (9, [Value.bool (decide ((↑y : Int) ≤ ↑x)) = .bool false])]) [0, 3, 7] [] hS (by kernel_rfl) (by kernel_rfl) (by kernel_rfl) (by kernel_rfl) (fun _ => by kernel_rfl) (by kernel_rfl) (by kernel_rfl) (by kernel_rfl) ?_ ?_ ?_
  ·intro e w' hw
   refine (.cons ?_ (.cons ?_ (.cons ?_ (.cons ?_ (.cons ?_ (.cons ?_ .nil))))))
   ·exact fun _ _ => (.cons (ix_rd (e := 3) (j := (i + 1)) hv (by kernel_rfl) (by kernel_rfl) rfl (by omega)) .nil)
   ·intro h1 h2
    obtain rfl : e = 0 := Nat.le_antisymm h2 h1
    obtain rfl : w' = wl4.drew := hw.trans (by kernel_rfl)
    exact (.cons ((hv.ext0 (hXl4.trans0 (by first | exact (Ext.refl [] _).drew | exact Ext.refl [] _))).cellAt ((i + 1) * 1) (by omega) (ivs_at' hy)) .nil)
   ·exact fun _ _ => (.cons ((by rw [show (((i + 1 : Nat) : Int) - 1 : Int) = ↑i from by omega]; exact as_i64 (by omega))) .nil)
   ·exact fun _ _ => (.cons (ix_rd (e := 3) (j := i) hv (by kernel_rfl) (by kernel_rfl) rfl (by omega)) .nil)
   ·intro h1 h2
    obtain rfl : e = 0 := Nat.le_antisymm h2 h1
    obtain rfl : w' = wl4.drew := hw.trans (by kernel_rfl)
    exact (.cons ((hv.ext0 (hXl4.trans0 (by first | exact (Ext.refl [] _).drew | exact Ext.refl [] _))).cellAt (i * 1) (by omega) (ivs_at' hx)) .nil)
   ·exact fun _ _ => (.cons (as_f (by omega)) .nil)
  ·refine .nil
  rintro a w11 hS hw12
  replace hw12 : w11 = wl4.drew := hw12.trans (by kernel_rfl)
  have hE13 : Ext [] w w11 := by rw [hw12]; exact hXl4.drew
  replace hS := hS.kp [(0, v), (3, I6 ((i + 1 : Nat) : Int)), (7, .bool (decide ((((i + 1 : Nat) : Int) : Int) < ↑n))), (19, .bool false)]
  refine hK9 _ _ ?_
  refine cond_f hS rfl ?_
  refine wpIn_skip <| inBlock_normal <| hK8 _ _ <| rgn 3 <| sd ww [.p, .as (I6 ((i + 1 + 1 : Nat) : Int)), .p] [Value.int .i64 (IntKind.i64.wrap (((i + 1 : Nat) : Int) + 1)) = I6 ((i + 1 + 1 : Nat) : Int)] [(3, I6 ((i + 1 + 1 : Nat) : Int))] [] 3 0 hS (.cons ((by rw [show (((i + 1 : Nat) : Int) + 1 : Int) = ((i + 1 + 1 : Nat) : Int) from by omega]; exact as_i64 (by omega))) .nil) fun a hS => seg_end ?_
  exact ⟨i + 1, ⟨hS.kp [(0, v), (3, I6 ((i + 1 + 1 : Nat) : Int))], hE13, by omega⟩, by omega⟩
 ·
  replace hb7 := of_decide_eq_false hb7
  refine wpIn_exit <| then_exit <| then_exit <| inBlock_hit <| hK2 _ _ <| sq fun K14 hK14 => rgn 1 <| sd ww [.p] [] [(2, .bool true)] [] 1 0 hS .nil fun a hS => seg_end <| hK14 _ _ <| wpIn_ret ?_
  refine ret1 hS Tryd.results39 rfl ?_
  exact ⟨rfl, hXl4⟩

set_option maxHeartbeats 1000000 in
theorem hdl_any {w0 w : World} {S : Sp} (hG : SpOk w0 S) (hb : Ext [] w0 w) {N : Nat} {T : Td} (hTd : TdOk S N w T) {rv : Value} {r : List Sy} (hr : RdV w0 2 rv r.length (ycells r)) (hr16 : r.length ≤ 16) (hrk : ∀ x ∈ r, syOk S x) {nv : Value} {nx : List Nat} (hn : RdV w 1 nv nx.length (ivs nx)) (hnm : nx.length ≤ 1048576) :
  Calls Tryd.prog 38 #[.agg #[Sl T.eg S.ns.length S.ns.length, .slice T.fb S.ns.length T.fc, .slice T.wb S.ns.length T.wc, .slice T.yb T.yn T.yc, .bool T.full], .agg S.ca, rv, nv] w fun e w' => ∃ bs n cp zs, e = .returned (.slice bs n cp) ∧ RowN w.heap.size w' bs n cp zs ∧ zs = hdL S.nl T.fl T.es nx (row r) ∧ n ≤ 4096 + nx.length ∧ Ext [] w w' := by
 have hlmax := hG.lmax
 have hnmax := hG.nmax
 have hpmax := hG.pmax
 have hfn := hTd.isF.len
 have hen := hTd.isE.len
 refine calls_body 58 [(0, .agg #[Sl T.eg S.ns.length S.ns.length, .slice T.fb S.ns.length T.fc, .slice T.wb S.ns.length T.wc, .slice T.yb T.yn T.yc, .bool T.full]), (1, .agg S.ca), (2, rv), (3, nv)] Tryd.func38 rfl (by kernel_rfl) (by kernel_rfl) (by kernel_rfl) fun a hS => ?_
 have hE0 : Ext [] w w := Ext.refl _ _
 refine sq fun K1 hK1 => rgn 3 <| eff_box ww (r := 2) (cs := #[Sl T.eg S.ns.length S.ns.length, .slice T.fb S.ns.length T.fc, .slice T.wb S.ns.length T.wc, .slice T.yb T.yn T.yc, .bool T.full]) (T := 53) (d := (some 4)) hS (by kernel_rfl) fun a w2 hw3 hS => ?_
 have hB4 : Blk w2 (w.heap.size) 53 #[Sl T.eg S.ns.length S.ns.length, .slice T.fb S.ns.length T.fc, .slice T.wb S.ns.length T.wc, .slice T.yb T.yn T.yc, .bool T.full] := by rw [hw3]; exact Blk.new _ _ _
 have hs5 : w.heap.size ≤ w.heap.size := hE0.size
 have hE6 : Ext [] w w2 := by rw [hw3]; exact hE0.alloc _
 refine eff_box ww (r := 1) (cs := S.ca) (T := 26) (d := (some 5)) hS (by kernel_rfl) fun a w7 hw8 hS => ?_
 have hB10 := Blk.at' hw8 (hB4.alloc _)
 have hB11 : Blk w7 (w2.heap.size) 26 S.ca := by rw [hw8]; exact Blk.new _ _ _
 have hs12 : w.heap.size ≤ w2.heap.size := hE6.size
 have hE13 : Ext [] w w7 := by rw [hw8]; exact hE6.alloc _
 refine sd ww [.p] [] [(8, .slice none 0 0)] [] 3 0 hS .nil fun a hS => seg_end <| hK1 _ _ <| sq fun K14 hK14 => ?_
 have hbr15 : Ext [] w0 w7 := (hb.trans0 hE13)
 have hEr15 : Ext [] w7 w7 := Ext.refl _ _
 refine rgn 1 <| sd ww [.p] [] [(9, .slice none 0 0)] [] 1 0 hS .nil fun a hS => seg_end <| hK14 _ _ <| sq fun K16 hK16 => sq fun K17 hK17 => rgn 1 <| sd ww [.p] [] [(10, I6 0)] [] 1 0 hS .nil fun a hS => seg_end <| hK17 _ _ <| wpIn_block ?_
 refine loop_ghost (fun ((k, bs, n, cq, zs) : Nat × (Option Addr) × Nat × Nat × (List Nat)) a' w' => St 58 [] [(2, rv), (3, nv), (4, (Pv w.heap.size)), (5, (Pv w2.heap.size)), (9, .slice bs n cq), (10, I6 ↑k)] a' ∧ Ext [] w7 w' ∧ k ≤ r.length ∧ RowN w7.heap.size w' bs n cq zs ∧ zs ++ hdL S.nl T.fl T.es nx ((row r).drop k) = hdL S.nl T.fl T.es nx (row r) ∧ n ≤ 128 * k) (fun ((k, bs, n, cq, zs) : Nat × (Option Addr) × Nat × Nat × (List Nat)) => r.length - k) (0, none, 0, 0, []) ⟨hS.keepTo [2, 3, 4, 5, 9, 10] (by kernel_rfl), hEr15, by omega, RowN.nil _ _, rfl, by omega⟩ ?_
 rintro ⟨k, bs, n, cq, zs⟩ a wl18 ⟨hS, hXl18, hk, hR, hz, hnk⟩
 refine sq fun K19 hK19 => sq fun K20 hK20 => rgn 4 <| sd ww [.p, .p, .run (I6 ↑r.length), .p] [Ru Tryd.prog (vS (Builtin.len_ #[71] 3 #[rv])) (I6 ↑r.length) wl18] [(15, .bool (decide ((↑k : Int) < ↑r.length)))] [] 4 0 hS (.cons (run_len_rd (e := 61) hr (by kernel_rfl)) .nil) fun a hS => seg_end <| hK20 _ _ ?_
 refine cond_b hS rfl (fun hb21 => ?_) (fun hb21 => ?_)
 ·
  replace hb21 := of_decide_eq_true hb21
  obtain ⟨x, hxk⟩ : ∃ x, r[k]? = some x := ⟨_, List.getElem?_eq_getElem (by omega)⟩
  have hxm := List.mem_of_getElem? hxk
  rw [row_at hxk] at hz
  have hnz := hR.len
  refine wpIn_skip <| hK19 _ _ <| sq fun K22 hK22 => wpIn_block <| sq fun K23 hK23 => rgn 6 <| sd ww [.p, .p, .run ((Po (bof rv) (oof rv + k * 2))), .lds [I6 x.1, I6 x.2]] [Ru Tryd.prog (vS (Instr.indexAt 71 (rv) (I6 ↑k))) ((Po (bof rv) (oof rv + k * 2))) wl18, wl18.cell? ⟨bof rv, oof rv + k * 2, none⟩ = some (I6 x.1), wl18.cell? ⟨bof rv, oof rv + k * 2 + 1, none⟩ = some (I6 x.2)] [(21, .agg #[I6 x.1, I6 x.2])] [] 4 2 hS (.cons (ix_rd (e := 61) (j := k) hr (by kernel_rfl) (by kernel_rfl) rfl (by omega)) (.cons ((hr.ext0 (hbr15.trans0 hXl18)).cellAt (k * 2 + 0) (by omega) (ycells_at r k 0 x hxk (by omega))) (.cons ((hr.ext0 (hbr15.trans0 hXl18)).cellAt (k * 2 + 1) (by omega) (ycells_at r k 1 x hxk (by omega))) .nil))) fun a hS => eff_box ww (r := 1) (cs := #[I6 0, I6 0]) (T := 61) (d := (some 11)) hS (by kernel_rfl) fun a w24 hw25 hS => ?_
  have hn26 : w.heap.size ≠ wl18.heap.size := Nat.ne_of_lt (hB10.ext hXl18 (by simp)).lt
  have hn27 : w2.heap.size ≠ wl18.heap.size := Nat.ne_of_lt (hB11.ext hXl18 (by simp)).lt
  have hn28 : ∀ x ∈ ob (.slice bs n cq), wl18.heap.size ≠ x := fun x hx => Nat.ne_of_gt (hR.own.lie x hx)
  have hB29 := Blk.at' hw25 ((hB10.ext hXl18 (by simp)).alloc _)
  have hB30 := Blk.at' hw25 ((hB11.ext hXl18 (by simp)).alloc _)
  have hB31 := OwnV.at' hw25 (hR.own.alloc _)
  have hB32 : Blk w24 (wl18.heap.size) 61 #[I6 0, I6 0] := by rw [hw25]; exact Blk.new _ _ _
  have hs33 : w7.heap.size ≤ wl18.heap.size := hXl18.size
  have hE34 : Ext [] w7 w24 := by rw [hw25]; exact hXl18.alloc _
  refine eff_store ww (r := 0) (b := wl18.heap.size) (off := 0) (vs := [I6 x.1, I6 x.2]) hS (by kernel_rfl) hB32 (by simp) fun a w35 hw36 hS => ?_
  have hB37 := Blk.at' hw36 (hB29.updNe (Ne.symm hn26) _ _)
  have hB38 := Blk.at' hw36 (hB30.updNe (Ne.symm hn27) _ _)
  have hB39 := OwnV.at' hw36 (hB31.updNe hn28 _ _)
  have hB40 : Blk w35 wl18.heap.size 61 (#[I6 x.1, I6 x.2]) := by rw [hw36]; exact hB32.upd _ _
  have hE41 : Ext [] w7 w35 := by rw [hw36]; exact hE34.updIn (.inr hs33) _ _
  refine seg_end <| hK23 _ _ <| sq fun K42 hK42 => sq fun K43 hK43 => ?_
  rcases (show (x.1 = 1 ∧ 0 ≤ x.2 ∧ x.2 < S.lx.length ∧ sm x = .t x.2.toNat) ∨ (x.1 = 2 ∧ x.2 = 0 ∧ sm x = .e) ∨ (x.1 = 3 ∧ 0 ≤ x.2 ∧ x.2 < S.ns.length ∧ sm x = .m x.2.toNat) from sy_kinds (hrk x hxm)) with ⟨h1, h2, h3, h4⟩ | ⟨h1, h2, h4⟩ | ⟨h1, h2, h3, h4⟩
  ·
   rw [h4] at hz
   obtain ⟨t, hxt⟩ : ∃ t : Nat, x.2 = t := ⟨x.2.toNat, by omega⟩
   rw [hxt, Int.toNat_natCast] at hz
   refine rgn 3 <| sd ww [.p, .ld (I6 x.1), .as (.bool true)] [w35.cell? ⟨wl18.heap.size, 0, none⟩ = some (I6 x.1), Value.bool (((x.1 : Int) == 1)) = .bool true] [(24, .bool true)] [] 3 0 hS (.cons (hB40.cell 0 rfl) (.cons (as_eq_t (by omega)) .nil)) fun a hS => seg_end <| hK43 _ _ ?_
   refine cond_t hS rfl ?_
   refine sq fun K44 hK44 => rgn 6 <| sd ww [.p, .p, .ld (I6 x.2)] [w35.cell? ⟨wl18.heap.size, 1, none⟩ = some (I6 x.2)] [(25, .slice bs n cq), (27, I6 x.2)] [] 3 3 hS (.cons (hB40.cell 1 rfl) .nil) fun a hS => eff_new ww (r := 2) (cs := #[I6 x.2]) (T := 3) (v := Value.slice (some ⟨w35.heap.size, 0, none⟩) 1 1) (d := (some 28)) hS (by kernel_rfl) fun a w45 hw46 hS => ?_
   have hB53 := OwnV.at' hw46 (hB39.alloc _)
   have hB55 : Blk w45 (w35.heap.size) 3 #[I6 x.2] := by rw [hw46]; exact Blk.new _ _ _
   have hs56 : w7.heap.size ≤ w35.heap.size := hE41.size
   have hE57 : Ext [] w7 w45 := by rw [hw46]; exact hE41.alloc _
   refine eff_append2 ww (r := 1) (d := (some 29)) (t := 51) (ty := 51) (e := 3) (size := 1) (bytes := 8) (len := n) (b := w35.heap.size) (off := 0) (k := 1) (c := 1) (z := #[I6 0]) (v := Value.slice bs n cq) (xs := (ivs zs)) [I6 x.2] hS (by kernel_rfl) (by kernel_rfl) (by kernel_rfl) (by kernel_rfl) (by kernel_rfl) hB53 (by simp) (fun j u hu => by rw [Nat.zero_add]; exact hB55.cell j (by simpa using hu)) rfl (by omega) (by omega) (by omega) fun ga58 ca58 a wa58 hOa58 hEa58 hFa58 hS => ?_
   have hE63 : Ext [] w7 wa58 := hE57.trans hEa58 (fun b hb => .inr (hR.new b hb))
   refine sd ww [.p] [] [(8, Sl ga58 (n + 1) ca58)] [] 6 0 hS .nil fun a hS => seg_end <| hK44 _ _ <| wpIn_ret <| then_ret <| inBlock_ret <| then_ret <| then_ret <| inBlock_ret <| then_ret ?_
   have hRn : RowN w7.heap.size wa58 (some ⟨ga58, 0, none⟩) (n + 1) ca58 (zs ++ [t]) := hR.grow (by rw [← hxt]; exact hOa58) hE57.size hFa58
   refine ret1 hS Tryd.results38 rfl ?_
   exact ⟨_, _, _, _, rfl, hRn.mono hE13.size, by rw [← hz]; rfl, by omega, (hE13.trans0 hE63)⟩
  ·
   rw [h4] at hz
   refine rgn 3 <| sd ww [.p, .ld (I6 x.1), .as (.bool false)] [w35.cell? ⟨wl18.heap.size, 0, none⟩ = some (I6 x.1), Value.bool (((x.1 : Int) == 1)) = .bool false] [(24, .bool false)] [] 3 0 hS (.cons (hB40.cell 0 rfl) (.cons (as_eq_f (by omega)) .nil)) fun a hS => seg_end <| hK43 _ _ ?_
   refine cond_f hS rfl ?_
   refine wpIn_skip <| hK42 _ _ <| sq fun K64 hK64 => sq fun K65 hK65 => rgn 3 <| sd ww [.p, .ld (I6 x.1), .as (.bool true)] [w35.cell? ⟨wl18.heap.size, 0, none⟩ = some (I6 x.1), Value.bool (((x.1 : Int) == 2)) = .bool true] [(32, .bool true)] [] 3 0 hS (.cons (hB40.cell 0 rfl) (.cons (as_eq_t (by omega)) .nil)) fun a hS => seg_end <| hK65 _ _ ?_
   refine cond_t hS rfl ?_
   refine sq fun K66 hK66 => rgn 7 <| sd ww [.p, .p, .ld (S.lv), .run (I6 ↑S.lx.length)] [w35.cell? ⟨w2.heap.size, 0, none⟩ = some (S.lv), Ru Tryd.prog (vS (Builtin.len_ #[22] 3 #[S.lv])) (I6 ↑S.lx.length) w35] [(33, .slice bs n cq), (36, I6 ↑S.lx.length)] [] 4 3 hS (.cons (hB38.cell 0 rfl) (.cons (run_len_rd (e := 100) hG.lex (by kernel_rfl)) .nil)) fun a hS => eff_new ww (r := 2) (cs := #[I6 ↑S.lx.length]) (T := 3) (v := Value.slice (some ⟨w35.heap.size, 0, none⟩) 1 1) (d := (some 37)) hS (by kernel_rfl) fun a w67 hw68 hS => ?_
   have hB75 := OwnV.at' hw68 (hB39.alloc _)
   have hB77 : Blk w67 (w35.heap.size) 3 #[I6 ↑S.lx.length] := by rw [hw68]; exact Blk.new _ _ _
   have hs78 : w7.heap.size ≤ w35.heap.size := hE41.size
   have hE79 : Ext [] w7 w67 := by rw [hw68]; exact hE41.alloc _
   refine eff_append2 ww (r := 1) (d := (some 38)) (t := 51) (ty := 51) (e := 3) (size := 1) (bytes := 8) (len := n) (b := w35.heap.size) (off := 0) (k := 1) (c := 1) (z := #[I6 0]) (v := Value.slice bs n cq) (xs := (ivs zs)) [I6 ↑S.lx.length] hS (by kernel_rfl) (by kernel_rfl) (by kernel_rfl) (by kernel_rfl) (by kernel_rfl) hB75 (by simp) (fun j u hu => by rw [Nat.zero_add]; exact hB77.cell j (by simpa using hu)) rfl (by omega) (by omega) (by omega) fun ga80 ca80 a wa80 hOa80 hEa80 hFa80 hS => ?_
   have hE85 : Ext [] w7 wa80 := hE79.trans hEa80 (fun b hb => .inr (hR.new b hb))
   refine sd ww [.p] [] [(8, Sl ga80 (n + 1) ca80)] [] 7 0 hS .nil fun a hS => seg_end <| hK66 _ _ <| wpIn_ret <| then_ret <| inBlock_ret <| then_ret <| then_ret <| inBlock_ret <| then_ret ?_
   have hRn : RowN w7.heap.size wa80 (some ⟨ga80, 0, none⟩) (n + 1) ca80 (zs ++ [S.lx.length]) := hR.grow hOa80 hE79.size hFa80
   refine ret1 hS Tryd.results38 rfl ?_
   exact ⟨_, _, _, _, rfl, hRn.mono hE13.size, by rw [← hz]; rfl, by omega, (hE13.trans0 hE85)⟩
  ·
   rw [h4, hdL, ← List.append_assoc] at hz
   obtain ⟨A, hxA⟩ : ∃ A : Nat, x.2 = A := ⟨x.2.toNat, by omega⟩
   rw [show x.2.toNat = A by omega] at hz
   obtain ⟨l, hl⟩ : ∃ l, T.fl[A]? = some l := ⟨_, List.getElem?_eq_getElem (by omega)⟩
   obtain ⟨b, hbA⟩ : ∃ b, T.es[A]? = some b := ⟨_, List.getElem?_eq_getElem (by omega)⟩
   rw [rF_at hl, show gB T.es A = b by simp [gB, hbA]] at hz
   obtain ⟨uv, huv, hur⟩ := hTd.lf.at' hl
   have hlm := hTd.isF.max1 l (List.mem_of_getElem? hl)
   refine rgn 3 <| sd ww [.p, .ld (I6 x.1), .as (.bool false)] [w35.cell? ⟨wl18.heap.size, 0, none⟩ = some (I6 x.1), Value.bool (((x.1 : Int) == 1)) = .bool false] [(24, .bool false)] [] 3 0 hS (.cons (hB40.cell 0 rfl) (.cons (as_eq_f (by omega)) .nil)) fun a hS => seg_end <| hK43 _ _ ?_
   refine cond_f hS rfl ?_
   refine wpIn_skip <| hK42 _ _ <| sq fun K86 hK86 => sq fun K87 hK87 => rgn 3 <| sd ww [.p, .ld (I6 x.1), .as (.bool false)] [w35.cell? ⟨wl18.heap.size, 0, none⟩ = some (I6 x.1), Value.bool (((x.1 : Int) == 2)) = .bool false] [(32, .bool false)] [] 3 0 hS (.cons (hB40.cell 0 rfl) (.cons (as_eq_f (by omega)) .nil)) fun a hS => seg_end <| hK87 _ _ ?_
   refine cond_f hS rfl ?_
   refine wpIn_skip <| hK86 _ _ <| sq fun K88 hK88 => rgn 9 <| sd ww [.p, .p, .ld (.slice T.fb S.ns.length T.fc), .p, .ld (I6 x.2), .run ((Po (bof (.slice T.fb S.ns.length T.fc)) (0 + A * 1))), .ld (uv)] [w35.cell? ⟨w.heap.size, 1, none⟩ = some (.slice T.fb S.ns.length T.fc), w35.cell? ⟨wl18.heap.size, 1, none⟩ = some (I6 x.2), Ru Tryd.prog (vS (Instr.indexAt 37 (.slice T.fb S.ns.length T.fc) (I6 x.2))) ((Po (bof (.slice T.fb S.ns.length T.fc)) (0 + A * 1))) w35, w35.cell? ⟨bof (.slice T.fb S.ns.length T.fc), 0 + A * 1, none⟩ = some (uv)] [(39, .slice bs n cq), (45, uv)] [] 7 2 hS (.cons (hB37.cell 1 rfl) (.cons (hB40.cell 1 rfl) (.cons (ix_own (j := A) ((hTd.ext0 (hE13.trans0 hE41)).lf.own) (by kernel_rfl) (by kernel_rfl) hxA (by omega)) (.cons (OwnV.cellAt ((hTd.ext0 (hE13.trans0 hE41)).lf.own) _ (by rw [Nat.zero_add, Nat.mul_one]; exact huv)) .nil)))) fun a hS => eff_append_rd ww (r := 1) (d := (some 46)) (t := 51) (ty := 51) (e := 3) (size := 1) (bytes := 8) (len := n) (k := l.length) (z := #[I6 0]) (v := Value.slice bs n cq) (u := uv) (xs := (ivs zs)) (news := (ivs l)) hS (by kernel_rfl) (by kernel_rfl) (by kernel_rfl) (by kernel_rfl) hB39 (hur.ext0 (hE13.trans0 hE41)) (ivs_one _) (by omega) (by omega) fun bs89 cp89 a wa89 hA89 hS => ?_
   have hEa89 : Ext (ob (Value.slice bs n cq)) w35 wa89 := hA89.ext
   have hO89 := hA89.own
   have hB90 := hB37.ext hEa89 (fun hm => (hR.own.ne (hB10.ext hXl18 (by simp)) (by decide)) _ hm rfl)
   have hB92 := hB40.ext hEa89 (fun hm => hn28 _ hm rfl)
   have hE93 : Ext [] w7 wa89 := hE41.trans hEa89 (fun b hb => .inr (hR.new b hb))
   have hnw89 : ∀ x ∈ ob (.slice bs89 (n + l.length) cp89), w7.heap.size ≤ x := fun x hx => by
    rcases hA89.fresh x (by simpa using hx) with h | h
    ·exact hR.new x h
    ·exact Nat.le_trans hE41.size h
   have hG94 : True := trivial
   refine sd ww [.p] [] [(9, .slice bs89 (n + l.length) cp89)] [] 9 0 hS .nil fun a hS => seg_end <| hK88 _ _ <| sq fun K95 hK95 => rgn 7 <| sg ww [.p, .ld (Sl T.eg S.ns.length S.ns.length), .p, .ld (I6 x.2), .run ((Po T.eg (0 + A * 1))), .ld (.bool b), .p] [wa89.cell? ⟨w.heap.size, 0, none⟩ = some (Sl T.eg S.ns.length S.ns.length), wa89.cell? ⟨wl18.heap.size, 1, none⟩ = some (I6 x.2), Ru Tryd.prog (vS (Instr.indexAt 31 (Sl T.eg S.ns.length S.ns.length) (I6 x.2))) ((Po T.eg (0 + A * 1))) wa89, wa89.cell? ⟨T.eg, 0 + A * 1, none⟩ = some (.bool b)] [(2, rv), (3, nv), (4, (Pv w.heap.size)), (5, (Pv w2.heap.size)), (9, .slice bs89 (n + l.length) cp89), (10, I6 ↑k), (15, .bool (decide ((↑k : Int) < ↑r.length))), (11, (Pv wl18.heap.size)), (24, .bool false), (32, .bool false), (53, .bool (!b))] 7 0 hS (.cons (hB90.cell 0 rfl) (.cons (hB92.cell 1 rfl) (.cons (ix_slice (E := 4) (size := 1) (j := A) (by kernel_rfl) (by kernel_rfl) hxA (by omega)) (.cons (((hTd.ext0 (hE13.trans0 hE93)).re).cellAt _ (bls_at hbA)) .nil)))) fun a hS => seg_end <| hK95 _ _ ?_
   refine cond_b hS rfl (fun hb96 => ?_) (fun hb96 => ?_)
   ·
    replace hb96 := hb96
    have hRn : RowN w7.heap.size wa89 bs89 (n + l.length) cp89 (zs ++ l) := ⟨by rw [ivs_app]; exact hO89, hnw89⟩
    have hbf : b = false := by simpa using hb96
    rw [hbf, if_neg (by simp), List.append_nil] at hz
    refine sq fun K97 hK97 => rgn 2 <| sd ww [.p, .p] [] [(8, .slice bs89 (n + l.length) cp89)] [] 2 0 hS .nil fun a hS => seg_end <| hK97 _ _ <| wpIn_ret <| inBlock_ret <| then_ret <| then_ret <| inBlock_ret <| then_ret ?_
    refine ret1 hS Tryd.results38 rfl ?_
    exact ⟨_, _, _, _, rfl, hRn.mono hE13.size, hz, by omega, (hE13.trans0 hE93)⟩
   ·
    replace hb96 := hb96
    have hRn : RowN w7.heap.size wa89 bs89 (n + l.length) cp89 (zs ++ l) := ⟨by rw [ivs_app]; exact hO89, hnw89⟩
    have hbt : b = true := by simpa using hb96
    rw [hbt, if_pos rfl] at hz
    refine wpIn_skip <| inBlock_normal <| hK22 _ _ <| rgn 3 <| sd ww [.p, .as (I6 (↑k + 1)), .p] [Value.int .i64 (IntKind.i64.wrap (↑k + 1)) = I6 (↑k + 1)] [(10, I6 (↑k + 1))] [] 3 0 hS (.cons (as_i64 (by omega)) .nil) fun a hS => seg_end ?_
    exact ⟨(k + 1, bs89, (n + l.length), cp89, (zs ++ l)), ⟨hS.kp [(2, rv), (3, nv), (4, (Pv w.heap.size)), (5, (Pv w2.heap.size)), (9, .slice bs89 (n + l.length) cp89), (10, I6 (↑k + 1))], hE93, by omega, hRn, hz, by omega⟩, by simp only; omega⟩
 ·
  replace hb21 := of_decide_eq_false hb21
  rw [List.drop_eq_nil_of_le (by rw [row_len]; omega), hdL] at hz
  refine wpIn_exit <| then_exit <| then_exit <| inBlock_hit <| hK16 _ _ <| sq fun K98 hK98 => rgn 4 <| sd ww [.p, .p] [] [(55, .slice bs n cq), (56, nv)] [] 2 2 hS .nil fun a hS => eff_append_rd ww (r := 1) (d := (some 57)) (t := 51) (ty := 51) (e := 3) (size := 1) (bytes := 8) (len := n) (k := nx.length) (z := #[I6 0]) (v := Value.slice bs n cq) (u := nv) (xs := (ivs zs)) (news := (ivs nx)) hS (by kernel_rfl) (by kernel_rfl) (by kernel_rfl) (by kernel_rfl) hR.own (hn.ext0 (hE13.trans0 hXl18)) (ivs_one _) (by omega) (by omega) fun bs99 cp99 a wa99 hA99 hS => ?_
  have hEa99 : Ext (ob (Value.slice bs n cq)) wl18 wa99 := hA99.ext
  have hO99 := hA99.own
  have hE102 : Ext [] w7 wa99 := hXl18.trans hEa99 (fun b hb => .inr (hR.new b hb))
  have hnw99 : ∀ x ∈ ob (.slice bs99 (n + nx.length) cp99), w7.heap.size ≤ x := fun x hx => by
   rcases hA99.fresh x (by simpa using hx) with h | h
   ·exact hR.new x h
   ·exact Nat.le_trans hXl18.size h
  have hG103 : True := trivial
  refine sd ww [.p] [] [(8, .slice bs99 (n + nx.length) cp99)] [] 4 0 hS .nil fun a hS => seg_end <| hK98 _ _ <| wpIn_ret ?_
  have hRn : RowN w7.heap.size wa99 bs99 (n + nx.length) cp99 (zs ++ nx) := ⟨by rw [ivs_app]; exact hO99, hnw99⟩
  refine ret1 hS Tryd.results38 rfl ?_
  exact ⟨_, _, _, _, rfl, hRn.mono hE13.size, hz, by omega, (hE13.trans0 hE102)⟩

theorem TdOk.ymax {S : Sp} {N : Nat} {w : World} {T : Td} (h : TdOk S N w T) : ∀ l ∈ T.yl, l.length ≤ 4096 := by
 obtain ⟨k, x, ⟨vs, hL, h1 | h1⟩, _⟩ := h.isY
 ·rw [h1.2.2.2.2.2.2.2]; intro l hl; cases hl
 ·exact YldR.max hL h1.2.2.1 h1.2.2.2.2
theorem GOk.r16 {S : Sp} (h : GOk S) {p : Pd} (hp : p ∈ S.ps) : p.r.length ≤ 16 := by
 have := h.lng
 unfold Lng at this
 rcases Nat.lt_or_ge 16 p.r.length with h1 | h1
 ·exact absurd (.inr (.inr (.inr ⟨p, hp, h1⟩))) this
 ·exact h1

set_option maxHeartbeats 1000000 in
theorem yld_any {w0 w : World} {S : Sp} (hG : SpOk w0 S) (hb : Ext [] w0 w) {N : Nat} {T : Td} (hTd : TdOk S N w T) (hok : GOk S) (hfu : T.full = false) {p : Pd} (hpm : p ∈ S.ps) :
  Calls Tryd.prog 40 #[.agg #[Sl T.eg S.ns.length S.ns.length, .slice T.fb S.ns.length T.fc, .slice T.wb S.ns.length T.wc, .slice T.yb T.yn T.yc, .bool T.full], .agg S.ca, .agg #[I6 p.l, p.rv]] w fun e w' => ∃ bs n cp zs, e = .returned (.slice bs n cp) ∧ RowN w.heap.size w' bs n cp zs ∧ zs = mkR S.nl (rF T.yl) (row p.r) ∧ n ≤ 65536 ∧ Ext [] w w' := by
 have hlmax := hG.lmax
 have hnmax := hG.nmax
 have hpmax := hG.pmax
 have hr16 := hok.r16 hpm
 obtain ⟨hyn, hyl⟩ := hTd.yld hfu
 have hyln := hyl.1
 refine calls_body 48 [(0, .agg #[Sl T.eg S.ns.length S.ns.length, .slice T.fb S.ns.length T.fc, .slice T.wb S.ns.length T.wc, .slice T.yb T.yn T.yc, .bool T.full]), (1, .agg S.ca), (2, .agg #[I6 p.l, p.rv])] Tryd.func40 rfl (by kernel_rfl) (by kernel_rfl) (by kernel_rfl) fun a hS => ?_
 have hE0 : Ext [] w w := Ext.refl _ _
 refine sq fun K1 hK1 => rgn 4 <| eff_box ww (r := 3) (cs := #[Sl T.eg S.ns.length S.ns.length, .slice T.fb S.ns.length T.fc, .slice T.wb S.ns.length T.wc, .slice T.yb T.yn T.yc, .bool T.full]) (T := 53) (d := (some 3)) hS (by kernel_rfl) fun a w2 hw3 hS => ?_
 have hB4 : Blk w2 (w.heap.size) 53 #[Sl T.eg S.ns.length S.ns.length, .slice T.fb S.ns.length T.fc, .slice T.wb S.ns.length T.wc, .slice T.yb T.yn T.yc, .bool T.full] := by rw [hw3]; exact Blk.new _ _ _
 have hs5 : w.heap.size ≤ w.heap.size := hE0.size
 have hE6 : Ext [] w w2 := by rw [hw3]; exact hE0.alloc _
 refine eff_box ww (r := 2) (cs := S.ca) (T := 26) (d := (some 4)) hS (by kernel_rfl) fun a w7 hw8 hS => ?_
 have hB10 := Blk.at' hw8 (hB4.alloc _)
 have hB11 : Blk w7 (w2.heap.size) 26 S.ca := by rw [hw8]; exact Blk.new _ _ _
 have hs12 : w.heap.size ≤ w2.heap.size := hE6.size
 have hE13 : Ext [] w w7 := by rw [hw8]; exact hE6.alloc _
 refine eff_box ww (r := 1) (cs := #[I6 p.l, p.rv]) (T := 73) (d := (some 5)) hS (by kernel_rfl) fun a w14 hw15 hS => ?_
 have hB18 := Blk.at' hw15 (hB10.alloc _)
 have hB19 := Blk.at' hw15 (hB11.alloc _)
 have hB20 : Blk w14 (w7.heap.size) 73 #[I6 p.l, p.rv] := by rw [hw15]; exact Blk.new _ _ _
 have hs21 : w.heap.size ≤ w7.heap.size := hE13.size
 have hE22 : Ext [] w w14 := by rw [hw15]; exact hE13.alloc _
 refine sd ww [.p] [] [(6, .slice none 0 0)] [] 4 0 hS .nil fun a hS => seg_end <| hK1 _ _ <| sq fun K23 hK23 => ?_
 have hbr24 : Ext [] w0 w14 := (hb.trans0 hE22)
 have hEr24 : Ext [] w14 w14 := Ext.refl _ _
 refine rgn 1 <| sd ww [.p] [] [(7, .slice none 0 0)] [] 1 0 hS .nil fun a hS => seg_end <| hK23 _ _ <| sq fun K25 hK25 => sq fun K26 hK26 => rgn 1 <| sd ww [.p] [] [(8, I6 0)] [] 1 0 hS .nil fun a hS => seg_end <| hK26 _ _ <| wpIn_block ?_
 refine loop_ghost (fun ((k, bs, n, cq, zs) : Nat × (Option Addr) × Nat × Nat × (List Nat)) a' w' => St 48 [] [(3, (Pv w.heap.size)), (4, (Pv w2.heap.size)), (5, (Pv w7.heap.size)), (7, .slice bs n cq), (8, I6 ↑k)] a' ∧ Ext [] w14 w' ∧ k ≤ p.r.length ∧ RowN w14.heap.size w' bs n cq zs ∧ zs ++ mkR S.nl (rF T.yl) ((row p.r).drop k) = mkR S.nl (rF T.yl) (row p.r) ∧ n ≤ 4096 * k) (fun ((k, bs, n, cq, zs) : Nat × (Option Addr) × Nat × Nat × (List Nat)) => p.r.length - k) (0, none, 0, 0, []) ⟨hS.keepTo [3, 4, 5, 7, 8] (by kernel_rfl), hEr24, by omega, RowN.nil _ _, rfl, by omega⟩ ?_
 rintro ⟨k, bs, n, cq, zs⟩ a wl27 ⟨hS, hXl27, hk, hR, hz, hnk⟩
 refine sq fun K28 hK28 => sq fun K29 hK29 => rgn 5 <| sd ww [.p, .p, .ld (p.rv), .run (I6 ↑p.r.length), .p] [wl27.cell? ⟨w7.heap.size, 1, none⟩ = some (p.rv), Ru Tryd.prog (vS (Builtin.len_ #[71] 3 #[p.rv])) (I6 ↑p.r.length) wl27] [(14, .bool (decide ((↑k : Int) < ↑p.r.length)))] [] 5 0 hS (.cons (((hB20.ext hXl27 (by simp))).cell 1 rfl) (.cons (run_len_rd (e := 61) (hG.right p hpm) (by kernel_rfl)) .nil)) fun a hS => seg_end <| hK29 _ _ ?_
 refine cond_b hS rfl (fun hb30 => ?_) (fun hb30 => ?_)
 ·
  replace hb30 := of_decide_eq_true hb30
  obtain ⟨x, hxk⟩ : ∃ x, p.r[k]? = some x := ⟨_, List.getElem?_eq_getElem (by omega)⟩
  have hxm := List.mem_of_getElem? hxk
  rw [row_at hxk] at hz
  have hnz := hR.len
  refine wpIn_skip <| hK28 _ _ <| sq fun K31 hK31 => wpIn_block <| sq fun K32 hK32 => rgn 7 <| sd ww [.p, .ld (p.rv), .p, .run ((Po (bof p.rv) (oof p.rv + k * 2))), .lds [I6 x.1, I6 x.2]] [wl27.cell? ⟨w7.heap.size, 1, none⟩ = some (p.rv), Ru Tryd.prog (vS (Instr.indexAt 71 (p.rv) (I6 ↑k))) ((Po (bof p.rv) (oof p.rv + k * 2))) wl27, wl27.cell? ⟨bof p.rv, oof p.rv + k * 2, none⟩ = some (I6 x.1), wl27.cell? ⟨bof p.rv, oof p.rv + k * 2 + 1, none⟩ = some (I6 x.2)] [(21, .agg #[I6 x.1, I6 x.2])] [] 5 2 hS (.cons (((hB20.ext hXl27 (by simp))).cell 1 rfl) (.cons (ix_rd (e := 61) (j := k) (hG.right p hpm) (by kernel_rfl) (by kernel_rfl) rfl (by omega)) (.cons (((hG.right p hpm).ext0 (hbr24.trans0 hXl27)).cellAt (k * 2 + 0) (by omega) (ycells_at p.r k 0 x hxk (by omega))) (.cons (((hG.right p hpm).ext0 (hbr24.trans0 hXl27)).cellAt (k * 2 + 1) (by omega) (ycells_at p.r k 1 x hxk (by omega))) .nil)))) fun a hS => eff_box ww (r := 1) (cs := #[I6 0, I6 0]) (T := 61) (d := (some 9)) hS (by kernel_rfl) fun a w33 hw34 hS => ?_
  have hn35 : w.heap.size ≠ wl27.heap.size := Nat.ne_of_lt (hB18.ext hXl27 (by simp)).lt
  have hn36 : w2.heap.size ≠ wl27.heap.size := Nat.ne_of_lt (hB19.ext hXl27 (by simp)).lt
  have hn38 : ∀ x ∈ ob (.slice bs n cq), wl27.heap.size ≠ x := fun x hx => Nat.ne_of_gt (hR.own.lie x hx)
  have hB39 := Blk.at' hw34 ((hB18.ext hXl27 (by simp)).alloc _)
  have hB40 := Blk.at' hw34 ((hB19.ext hXl27 (by simp)).alloc _)
  have hB42 := OwnV.at' hw34 (hR.own.alloc _)
  have hB43 : Blk w33 (wl27.heap.size) 61 #[I6 0, I6 0] := by rw [hw34]; exact Blk.new _ _ _
  have hs44 : w14.heap.size ≤ wl27.heap.size := hXl27.size
  have hE45 : Ext [] w14 w33 := by rw [hw34]; exact hXl27.alloc _
  refine eff_store ww (r := 0) (b := wl27.heap.size) (off := 0) (vs := [I6 x.1, I6 x.2]) hS (by kernel_rfl) hB43 (by simp) fun a w46 hw47 hS => ?_
  have hB48 := Blk.at' hw47 (hB39.updNe (Ne.symm hn35) _ _)
  have hB49 := Blk.at' hw47 (hB40.updNe (Ne.symm hn36) _ _)
  have hB51 := OwnV.at' hw47 (hB42.updNe hn38 _ _)
  have hB52 : Blk w46 wl27.heap.size 61 (#[I6 x.1, I6 x.2]) := by rw [hw47]; exact hB43.upd _ _
  have hE53 : Ext [] w14 w46 := by rw [hw47]; exact hE45.updIn (.inr hs44) _ _
  refine seg_end <| hK32 _ _ <| sq fun K54 hK54 => ?_
  rcases (show (x.1 = 1 ∧ 0 ≤ x.2 ∧ x.2 < S.lx.length ∧ sm x = .t x.2.toNat) ∨ (x.1 = 2 ∧ x.2 = 0 ∧ sm x = .e) ∨ (x.1 = 3 ∧ 0 ≤ x.2 ∧ x.2 < S.ns.length ∧ sm x = .m x.2.toNat) from sy_kinds (hok.ix.right p hpm x hxm)) with ⟨h1, h2, h3, h4⟩ | ⟨h1, h2, h4⟩ | ⟨h1, h2, h3, h4⟩
  ·
   rw [h4, mkR] at hz
   obtain ⟨t, hxt⟩ : ∃ t : Nat, x.2 = t := ⟨x.2.toNat, by omega⟩
   rw [hxt, Int.toNat_natCast] at hz
   refine rgn 2 <| sd ww [.p, .ld (I6 x.1)] [w46.cell? ⟨wl27.heap.size, 0, none⟩ = some (I6 x.1)] [(23, I6 x.1)] [] 2 0 hS (.cons (hB52.cell 0 rfl) .nil) fun a hS => seg_end <| hK54 _ _ <| wpIn_block <| sq fun K55 hK55 => rgn 2 <| sd ww [.as (.bool true), .p] [Value.bool (((x.1 : Int) == 1)) = .bool true] [(32, .bool true)] [] 2 0 hS (.cons (as_eq_t (by omega)) .nil) fun a hS => seg_end <| hK55 _ _ ?_
   refine cond_t hS rfl ?_
   refine rgn 6 <| sd ww [.p, .p, .ld (I6 x.2)] [w46.cell? ⟨wl27.heap.size, 1, none⟩ = some (I6 x.2)] [(34, .slice bs n cq), (36, I6 x.2)] [] 3 3 hS (.cons (hB52.cell 1 rfl) .nil) fun a hS => eff_new ww (r := 2) (cs := #[I6 x.2]) (T := 3) (v := Value.slice (some ⟨w46.heap.size, 0, none⟩) 1 1) (d := (some 37)) hS (by kernel_rfl) fun a w56 hw57 hS => ?_
   have hB66 := OwnV.at' hw57 (hB51.alloc _)
   have hB68 : Blk w56 (w46.heap.size) 3 #[I6 x.2] := by rw [hw57]; exact Blk.new _ _ _
   have hs69 : w14.heap.size ≤ w46.heap.size := hE53.size
   have hE70 : Ext [] w14 w56 := by rw [hw57]; exact hE53.alloc _
   refine eff_append2 ww (r := 1) (d := (some 38)) (t := 51) (ty := 51) (e := 3) (size := 1) (bytes := 8) (len := n) (b := w46.heap.size) (off := 0) (k := 1) (c := 1) (z := #[I6 0]) (v := Value.slice bs n cq) (xs := (ivs zs)) [I6 x.2] hS (by kernel_rfl) (by kernel_rfl) (by kernel_rfl) (by kernel_rfl) (by kernel_rfl) hB66 (by simp) (fun j u hu => by rw [Nat.zero_add]; exact hB68.cell j (by simpa using hu)) rfl (by omega) (by omega) (by omega) fun ga71 ca71 a wa71 hOa71 hEa71 hFa71 hS => ?_
   have hE77 : Ext [] w14 wa71 := hE70.trans hEa71 (fun b hb => .inr (hR.new b hb))
   refine sd ww [.p] [] [(7, Sl ga71 (n + 1) ca71)] [] 6 0 hS .nil fun a hS => seg_end <| inBlock_normal <| inBlock_normal <| hK31 _ _ <| rgn 3 <| sg ww [.p, .as (I6 (↑k + 1)), .p] [Value.int .i64 (IntKind.i64.wrap (↑k + 1)) = I6 (↑k + 1)] [(3, (Pv w.heap.size)), (4, (Pv w2.heap.size)), (5, (Pv w7.heap.size)), (7, Sl ga71 (n + 1) ca71), (8, I6 (↑k + 1)), (14, .bool (decide ((↑k : Int) < ↑p.r.length))), (9, (Pv wl27.heap.size)), (23, I6 x.1), (32, .bool true)] 3 0 hS (.cons (as_i64 (by omega)) .nil) fun a hS => seg_end ?_
   have hRn : RowN w14.heap.size wa71 (some ⟨ga71, 0, none⟩) (n + 1) ca71 (zs ++ [t]) := hR.grow (by rw [← hxt]; exact hOa71) hE70.size hFa71
   exact ⟨(k + 1, (some ⟨ga71, 0, none⟩), (n + 1), ca71, (zs ++ [t])), ⟨hS.kp [(3, (Pv w.heap.size)), (4, (Pv w2.heap.size)), (5, (Pv w7.heap.size)), (7, Sl ga71 (n + 1) ca71), (8, I6 (↑k + 1))], hE77, by omega, hRn, by rw [List.append_assoc]; exact hz, by omega⟩, by simp only; omega⟩
  ·
   rw [h4, mkR] at hz
   refine rgn 2 <| sd ww [.p, .ld (I6 x.1)] [w46.cell? ⟨wl27.heap.size, 0, none⟩ = some (I6 x.1)] [(23, I6 x.1)] [] 2 0 hS (.cons (hB52.cell 0 rfl) .nil) fun a hS => seg_end <| hK54 _ _ <| wpIn_block <| sq fun K78 hK78 => rgn 2 <| sd ww [.as (.bool false), .p] [Value.bool (((x.1 : Int) == 1)) = .bool false] [(32, .bool false)] [] 2 0 hS (.cons (as_eq_f (by omega)) .nil) fun a hS => seg_end <| hK78 _ _ ?_
   refine cond_f hS rfl ?_
   refine sq fun K79 hK79 => rgn 2 <| sd ww [.as (.bool true), .p] [Value.bool (((x.1 : Int) == 2)) = .bool true] [(39, .bool true)] [] 2 0 hS (.cons (as_eq_t (by omega)) .nil) fun a hS => seg_end <| hK79 _ _ ?_
   refine cond_t hS rfl ?_
   refine rgn 7 <| sd ww [.p, .p, .ld (S.lv), .run (I6 ↑S.lx.length)] [w46.cell? ⟨w2.heap.size, 0, none⟩ = some (S.lv), Ru Tryd.prog (vS (Builtin.len_ #[22] 3 #[S.lv])) (I6 ↑S.lx.length) w46] [(41, .slice bs n cq), (44, I6 ↑S.lx.length)] [] 4 3 hS (.cons (hB49.cell 0 rfl) (.cons (run_len_rd (e := 100) hG.lex (by kernel_rfl)) .nil)) fun a hS => eff_new ww (r := 2) (cs := #[I6 ↑S.lx.length]) (T := 3) (v := Value.slice (some ⟨w46.heap.size, 0, none⟩) 1 1) (d := (some 45)) hS (by kernel_rfl) fun a w80 hw81 hS => ?_
   have hB90 := OwnV.at' hw81 (hB51.alloc _)
   have hB92 : Blk w80 (w46.heap.size) 3 #[I6 ↑S.lx.length] := by rw [hw81]; exact Blk.new _ _ _
   have hs93 : w14.heap.size ≤ w46.heap.size := hE53.size
   have hE94 : Ext [] w14 w80 := by rw [hw81]; exact hE53.alloc _
   refine eff_append2 ww (r := 1) (d := (some 46)) (t := 51) (ty := 51) (e := 3) (size := 1) (bytes := 8) (len := n) (b := w46.heap.size) (off := 0) (k := 1) (c := 1) (z := #[I6 0]) (v := Value.slice bs n cq) (xs := (ivs zs)) [I6 ↑S.lx.length] hS (by kernel_rfl) (by kernel_rfl) (by kernel_rfl) (by kernel_rfl) (by kernel_rfl) hB90 (by simp) (fun j u hu => by rw [Nat.zero_add]; exact hB92.cell j (by simpa using hu)) rfl (by omega) (by omega) (by omega) fun ga95 ca95 a wa95 hOa95 hEa95 hFa95 hS => ?_
   have hE101 : Ext [] w14 wa95 := hE94.trans hEa95 (fun b hb => .inr (hR.new b hb))
   refine sg ww [.p] [] [(3, (Pv w.heap.size)), (4, (Pv w2.heap.size)), (5, (Pv w7.heap.size)), (7, Sl ga95 (n + 1) ca95), (8, I6 ↑k), (14, .bool (decide ((↑k : Int) < ↑p.r.length))), (9, (Pv wl27.heap.size)), (23, I6 x.1), (32, .bool false), (39, .bool true)] 7 0 hS .nil fun a hS => seg_end <| inBlock_normal <| inBlock_normal <| hK31 _ _ <| rgn 3 <| sd ww [.p, .as (I6 (↑k + 1)), .p] [Value.int .i64 (IntKind.i64.wrap (↑k + 1)) = I6 (↑k + 1)] [(8, I6 (↑k + 1))] [] 3 0 hS (.cons (as_i64 (by omega)) .nil) fun a hS => seg_end ?_
   have hRn : RowN w14.heap.size wa95 (some ⟨ga95, 0, none⟩) (n + 1) ca95 (zs ++ [S.lx.length]) := hR.grow hOa95 hE94.size hFa95
   exact ⟨(k + 1, (some ⟨ga95, 0, none⟩), (n + 1), ca95, (zs ++ [S.lx.length])), ⟨hS.kp [(3, (Pv w.heap.size)), (4, (Pv w2.heap.size)), (5, (Pv w7.heap.size)), (7, Sl ga95 (n + 1) ca95), (8, I6 (↑k + 1))], hE101, by omega, hRn, by rw [List.append_assoc]; exact hz, by omega⟩, by simp only; omega⟩
  ·
   rw [h4, mkR, ← List.append_assoc] at hz
   obtain ⟨A, hxA⟩ : ∃ A : Nat, x.2 = A := ⟨x.2.toNat, by omega⟩
   rw [show x.2.toNat = A by omega] at hz
   obtain ⟨l, hl⟩ : ∃ l, T.yl[A]? = some l := ⟨_, List.getElem?_eq_getElem (by omega)⟩
   rw [rF_at hl] at hz
   obtain ⟨uv, huv, hur⟩ := hTd.ly.at' hl
   have hlm := hTd.ymax l (List.mem_of_getElem? hl)
   refine rgn 2 <| sd ww [.p, .ld (I6 x.1)] [w46.cell? ⟨wl27.heap.size, 0, none⟩ = some (I6 x.1)] [(23, I6 x.1)] [] 2 0 hS (.cons (hB52.cell 0 rfl) .nil) fun a hS => seg_end <| hK54 _ _ <| wpIn_block <| sq fun K102 hK102 => rgn 2 <| sd ww [.as (.bool false), .p] [Value.bool (((x.1 : Int) == 1)) = .bool false] [(32, .bool false)] [] 2 0 hS (.cons (as_eq_f (by omega)) .nil) fun a hS => seg_end <| hK102 _ _ ?_
   refine cond_f hS rfl ?_
   refine sq fun K103 hK103 => rgn 2 <| sd ww [.as (.bool false), .p] [Value.bool (((x.1 : Int) == 2)) = .bool false] [(39, .bool false)] [] 2 0 hS (.cons (as_eq_f (by omega)) .nil) fun a hS => seg_end <| hK103 _ _ ?_
   refine cond_f hS rfl ?_
   refine rgn 9 <| sd ww [.p, .p, .ld (.slice T.yb T.yn T.yc), .p, .ld (I6 x.2), .run ((Po (bof (.slice T.yb T.yn T.yc)) (0 + A * 1))), .ld (uv)] [w46.cell? ⟨w.heap.size, 3, none⟩ = some (.slice T.yb T.yn T.yc), w46.cell? ⟨wl27.heap.size, 1, none⟩ = some (I6 x.2), Ru Tryd.prog (vS (Instr.indexAt 37 (.slice T.yb T.yn T.yc) (I6 x.2))) ((Po (bof (.slice T.yb T.yn T.yc)) (0 + A * 1))) w46, w46.cell? ⟨bof (.slice T.yb T.yn T.yc), 0 + A * 1, none⟩ = some (uv)] [(24, .slice bs n cq), (30, uv)] [] 7 2 hS (.cons (hB48.cell 3 rfl) (.cons (hB52.cell 1 rfl) (.cons (ix_own (j := A) ((hTd.ext0 (hE22.trans0 hE53)).ly.own) (by kernel_rfl) (by kernel_rfl) hxA (by omega)) (.cons (OwnV.cellAt ((hTd.ext0 (hE22.trans0 hE53)).ly.own) _ (by rw [Nat.zero_add, Nat.mul_one]; exact huv)) .nil)))) fun a hS => eff_append_rd ww (r := 1) (d := (some 31)) (t := 51) (ty := 51) (e := 3) (size := 1) (bytes := 8) (len := n) (k := l.length) (z := #[I6 0]) (v := Value.slice bs n cq) (u := uv) (xs := (ivs zs)) (news := (ivs l)) hS (by kernel_rfl) (by kernel_rfl) (by kernel_rfl) (by kernel_rfl) hB51 (hur.ext0 (hE22.trans0 hE53)) (ivs_one _) (by omega) (by omega) fun bs104 cp104 a wa104 hA104 hS => ?_
   have hEa104 : Ext (ob (Value.slice bs n cq)) w46 wa104 := hA104.ext
   have hO104 := hA104.own
   have hE109 : Ext [] w14 wa104 := hE53.trans hEa104 (fun b hb => .inr (hR.new b hb))
   have hnw104 : ∀ x ∈ ob (.slice bs104 (n + l.length) cp104), w14.heap.size ≤ x := fun x hx => by
    rcases hA104.fresh x (by simpa using hx) with h | h
    ·exact hR.new x h
    ·exact Nat.le_trans hE53.size h
   have hG110 : True := trivial
   refine sg ww [.p] [] [(3, (Pv w.heap.size)), (4, (Pv w2.heap.size)), (5, (Pv w7.heap.size)), (7, .slice bs104 (n + l.length) cp104), (8, I6 ↑k), (14, .bool (decide ((↑k : Int) < ↑p.r.length))), (9, (Pv wl27.heap.size)), (23, I6 x.1), (32, .bool false), (39, .bool false)] 9 0 hS .nil fun a hS => seg_end <| inBlock_normal <| inBlock_normal <| hK31 _ _ <| rgn 3 <| sd ww [.p, .as (I6 (↑k + 1)), .p] [Value.int .i64 (IntKind.i64.wrap (↑k + 1)) = I6 (↑k + 1)] [(8, I6 (↑k + 1))] [] 3 0 hS (.cons (as_i64 (by omega)) .nil) fun a hS => seg_end ?_
   have hRn : RowN w14.heap.size wa104 bs104 (n + l.length) cp104 (zs ++ l) := ⟨by rw [ivs_app]; exact hO104, hnw104⟩
   exact ⟨(k + 1, bs104, (n + l.length), cp104, (zs ++ l)), ⟨hS.kp [(3, (Pv w.heap.size)), (4, (Pv w2.heap.size)), (5, (Pv w7.heap.size)), (7, .slice bs104 (n + l.length) cp104), (8, I6 (↑k + 1))], hE109, by omega, hRn, hz, by omega⟩, by simp only; omega⟩
 ·
  replace hb30 := of_decide_eq_false hb30
  rw [List.drop_eq_nil_of_le (by rw [row_len]; omega), mkR, List.append_nil] at hz
  refine wpIn_exit <| then_exit <| then_exit <| inBlock_hit <| hK25 _ _ <| sq fun K111 hK111 => rgn 2 <| sd ww [.p, .p] [] [(6, .slice bs n cq)] [] 2 0 hS .nil fun a hS => seg_end <| hK111 _ _ <| wpIn_ret ?_
  refine ret1 hS Tryd.results40 rfl ?_
  exact ⟨_, _, _, _, rfl, hR.mono hE22.size, hz, by omega, (hE22.trans0 hXl27)⟩

end Go.Proofs.YtkkpghlcmcaoiaaDoor
