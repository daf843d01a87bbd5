import Derived.Test.YtkkpghlcmcaoiaaDoorRs
import Derived.Test.YtkkpghlcmcaoiaaDoorSt4
namespace Go.Proofs.YtkkpghlcmcaoiaaDoor
open Go.Vc Go.Gm
set_option maxHeartbeats 1000000 in
theorem Empties_r {w0 w : World} {S : Sp} (hG : SpOk w0 S) (hb : Ext [] w0 w) (hI : Ix S) (h16 : ∀ p ∈ S.ps, p.r.length ≤ 16) :
  Calls Tryd.prog 84 #[.agg S.ca] w fun e w' => ∃ g vs, e = .returned (Sn S g) ∧ OwnR w' 3 1 g S.ns.length S.ns.length (ivs (zvL vs)) ∧ vs.length = S.ns.length ∧ IsC S.g 1 257 257 (vf 257 vs) ∧ w.heap.size ≤ g ∧ Ext [] w w' := by
 have hlmax := hG.lmax
 have hnmax := hG.nmax
 have hpmax := hG.pmax
 refine cbd 88 [(0, .agg S.ca)] Tryd.func84 rfl fun a hS => ?_
 have hE0 : Ext [] w w := Ext.refl _ _
 refine sq fun K1 hK1 => rgn 2 <| ebx 1 S.ca 26 (some 1) hS fun a w2 hw3 hS => ?_
 have hB4 := Blk.nw hw3
 have hs5 := hE0.size
 have hE6 := hE0.al hw3
 refine sd ww [.p] [] [(2, .slice none 0 0)] [] 2 0 hS .nil fun a hS => sge hK1 <| sq fun K7 hK7 => rgn 5 <| sd ww [.p, .ld (S.nv), .run (I6 S.ns.length)] [_, Rv (Builtin.len_ #[23] 3 #[S.nv]) (I6 S.ns.length) w2] [(11, I6 S.ns.length)] [] 3 2 hS (hB4.k 1 (.c (rlr 9 hG.names) .nil)) fun a hS => ?_
 obtain ⟨wm8, hrm8, hOm8, hEm8, hsm8⟩ := make_full (P := Tryd.prog) (w := w2) (T := 51) (E := 3) (size := 1) (bytes := 8) (z := #[I6 0]) (Value.int .i64 0) (l := S.ns.length) (by kernel_rfl) (by kernel_rfl) (by rfl) (by omega) (by omega) (by omega)
 refine eff_run ww (r := 1) (s := vS (Instr.makeSlice 51 (I6 S.ns.length) (I6 S.ns.length))) (d := (some 12)) (v := Sn S w2.heap.size) hS (by kernel_rfl) hrm8 fun a hS => ?_
 have hn8_8 := Nat.ne_of_lt hB4.lt
 have hB10 := hB4.ext hEm8 (by simp)
 have hE11 := hE6.trans0 hEm8
 have hg0 := hOm8
 rw [zv_rep] at hg0
 have hgn0 : w0.heap.size ≤ w2.heap.size := Nat.le_trans hb.size hE6.size
 refine sd ww [.p] [] [(3, Sn S w2.heap.size)] [] 5 0 hS .nil fun a hS => sge hK7 <| sq fun K12 hK12 => sdq 1 [.p] [] [(4, .bool true)] [] hS .nil fun a hS => wpIn_block ?_
 have hbl14 := (hb.trans0 hE11)
 refine loop_ghost (fun ((vs, mo) : (List Nat) × Bool) a' w' => St 88 [] [(1, (Pv w.heap.size)), (3, Sn S w2.heap.size), (4, .bool mo)] a' ∧ Ext [w2.heap.size] wm8 w' ∧ OwnR w' 3 1 (w2.heap.size) S.ns.length S.ns.length (ivs (zvL vs)) ∧ SmS S 1 257 257 vs ∧ (mo = false → ∀ j, j < S.ps.length → SmC S 1 257 257 j vs)) (fun ((vs, mo) : (List Nat) × Bool) => 2 * vs.sum + mo.toNat) ((List.replicate S.ns.length 257), true) ⟨hS.keepTo [1, 3, 4] (by kernel_rfl), Ext.refl _ _, hg0, .start _ _ _ _, fun h => by cases h⟩ ?_
 rintro ⟨vs, mo⟩ a wl14 ⟨hS, hXl14, hg1, hs1, hc1⟩
 have hB15 := hB10.ext hXl14 (by simpa using hn8_8)
 refine sq fun K16 hK16 => sdq 1 [.p] [] [(13, .bool mo)] [] hS .nil fun a hS => ?_
 refine cond_b hS rfl (fun hb18 => ?_) (fun hb18 => ?_)
 ·
  replace hb18 := hb18
  have hmo : mo = true := hb18
  refine wpIn_skip <| hK16 _ _ <| wpIn_block <| sdq 1 [.p] [] [(4, .bool false)] [] hS .nil fun a hS => sdq 1 [.p] [] [(5, I6 0)] [] hS .nil fun a hS => wpIn_block ?_
  have hbl21 : Ext [] w0 wl14 := (hbl14.t1 hXl14 hgn0)
  refine loop_ghost (fun ((i, vs1, gr) : Nat × (List Nat) × Bool) a' w' => St 88 [] [(1, (Pv w.heap.size)), (3, Sn S w2.heap.size), (4, .bool gr), (5, I6 i)] a' ∧ Ext [w2.heap.size] wl14 w' ∧ i ≤ S.ps.length ∧ OwnR w' 3 1 (w2.heap.size) S.ns.length S.ns.length (ivs (zvL vs1)) ∧ SmP S 1 257 257 i vs vs1 gr) (fun ((i, vs1, gr) : Nat × (List Nat) × Bool) => S.ps.length - i) (0, vs, false) ⟨hS.keepTo [1, 3, 4, 5] (by kernel_rfl), Ext.refl _ _, by omega, hg1, .start hs1⟩ ?_
  rintro ⟨i, vs1, gr⟩ a wl21 ⟨hS, hXl21, hi, hg2, hP⟩
  have hB22 := hB15.ext hXl21 (by simpa using hn8_8)
  refine sq fun K23 hK23 => sdq 5 [.p, .p, .ld (S.pv), .run (I6 S.ps.length), .p] [_, Rv (Builtin.len_ #[24] 3 #[S.pv]) (I6 S.ps.length) wl21] [(18, .bool (decide ((↑i : Int) < ↑S.ps.length)))] [] hS (hB22.k 3 (.c (rlr 73 hG.prods) .nil)) fun a hS => ?_
  refine cond_b hS rfl (fun hb25 => ?_) (fun hb25 => ?_)
  ·
   replace hb25 := of_decide_eq_true hb25
   obtain ⟨p, hpi⟩ : ∃ p, S.ps[i]? = some p := gE
   have hpm := List.mem_of_getElem? hpi
   have hrm := hG.rmax p hpm
   have hpl := hI.pl hpm
   have hvl := hP.snd.len
   have hr16 := h16 p hpm
   refine wpIn_skip <| hK23 _ _ <| sq fun K26 hK26 => wpIn_block <| sq fun K27 hK27 => rgn 7 <| sd ww [.p, .ld (S.pv), .p, .run ((Po (bof S.pv) (oof S.pv + i * 2))), .lds [I6 p.l, p.rv]] [_, Rv (Instr.indexAt 24 (S.pv) (I6 i)) ((Po (bof S.pv) (oof S.pv + i * 2))) wl21, wl21.cell? ⟨bof S.pv, oof S.pv + i * 2, none⟩ = some (I6 p.l), wl21.cell? ⟨bof S.pv, oof S.pv + i * 2 + 1, none⟩ = some (p.rv)] [(25, .agg #[I6 p.l, p.rv])] [] 5 2 hS (hB22.k 3 (.c (ixr 73 i hG.prods) (.c ((hG.prods.ext0 (hbl21.t1 hXl21 hgn0)).cellAt (i * 2 + 0) (by omega) (pcells_at S.ps i 0 p hpi (by omega))) (.c ((hG.prods.ext0 (hbl21.t1 hXl21 hgn0)).cellAt (i * 2 + 1) (by omega) (pcells_at S.ps i 1 p hpi (by omega))) .nil)))) fun a hS => ebx 1 #[I6 0, .slice none 0 0] 73 (some 6) hS fun a w28 hw29 hS => ?_
   have hn31 := Nat.ne_of_lt hg2.lt
   have hB33 := OwnR.at' hw29 (hg2.alloc _)
   have hB34 := Blk.nw hw29
   have hs35 := hXl21.size
   have hE36 := hXl21.al hw29
   refine est 0 wl21.heap.size 0 [I6 p.l, p.rv] hS hB34 fun a w37 hw38 hS => ?_
   have hB40 := OwnR.at' hw38 (hB33.updNe (Ne.symm hn31) _ _)
   have hB41 : Blk w37 wl21.heap.size 73 (#[I6 p.l, p.rv]) := hB34.up hw38
   have hE42 := hE36.ui hw38 hs35
   refine sge hK27 <| sdq 1 [.p] [] [(7, I6 1)] [] hS .nil fun a hS => sq fun K44 hK44 => sdq 1 [.p] [] [(8, I6 0)] [] hS .nil fun a hS => wpIn_block ?_
   have hbl46 : Ext [] w0 w37 := (hbl21.t1 hE42 hgn0)
   refine loop_ghost (fun ((k, m) : Nat × Nat) a' w' => St 88 [] [(1, (Pv w.heap.size)), (3, Sn S w2.heap.size), (4, .bool gr), (5, I6 i), (6, (Pv wl21.heap.size)), (7, I6 m), (8, I6 k)] a' ∧ Ext [] w37 w' ∧ k ≤ p.r.length ∧ m + sumV 257 (vf 257 vs1) ((row p.r).drop k) = (1 + sumV 257 (vf 257 vs1) (row p.r)) ∧ m ≤ 1 + 256 * k) (fun ((k, m) : Nat × Nat) => p.r.length - k) (0, 1) ⟨hS.keepTo [1, 3, 4, 5, 6, 7, 8] (by kernel_rfl), Ext.refl _ _, by omega, rfl, by omega⟩ ?_
   rintro ⟨k, m⟩ a wl46 ⟨hS, hXl46, hk, hm, hmk⟩
   have hB48 := hB40.ext hXl46 (by simp)
   have hB49 := hB41.ext hXl46 (by simp)
   refine sq fun K50 hK50 => sdq 5 [.p, .p, .ld (p.rv), .run (I6 p.r.length), .p] [_, Rv (Builtin.len_ #[71] 3 #[p.rv]) (I6 p.r.length) wl46] [(30, .bool (decide ((↑k : Int) < ↑p.r.length)))] [] hS (hB49.k 1 (.c (rlr 61 (hG.right p hpm)) .nil)) fun a hS => ?_
   refine cond_b hS rfl (fun hb52 => ?_) (fun hb52 => ?_)
   ·
    replace hb52 := of_decide_eq_true hb52
    obtain ⟨x, hxk⟩ : ∃ x, p.r[k]? = some x := gE
    have hxm := List.mem_of_getElem? hxk
    refine wpIn_skip <| hK50 _ _ <| sq fun K53 hK53 => wpIn_block <| sq fun K54 hK54 => sq fun K55 hK55 => ?_
    rcases (show (x.1 ≠ 3) ∨ (x.1 = 3 ∧ ∃ u, vs1[x.2.toNat]? = some u ∧ u = 257) ∨ (x.1 = 3 ∧ ∃ u, vs1[x.2.toNat]? = some u ∧ u ≠ 257) from by
     rcases Decidable.em (x.1 = 3) with h | h
     ·have hxn := hI.name hpm hxm h
      obtain ⟨u, hu⟩ : ∃ u, vs1[x.2.toNat]? = some u := gE
      rcases Decidable.em (u = 257) with h2 | h2
      ·exact .inr (.inl ⟨h, u, hu, h2⟩)
      ·exact .inr (.inr ⟨h, u, hu, h2⟩)
     ·exact .inl h) with h1 | ⟨h1, u, hu, hu2⟩ | ⟨h1, u, hu, hu2⟩
    ·
     have hEl46 : Ext [w2.heap.size] wl14 wl46 := hE42.trans0 hXl46
     have hTT : 257 ≤ (1 + sumV 257 (vf 257 vs1) (row p.r)) := by rw [← hm, sumV_o hxk h1]; omega
     obtain ⟨v, hv⟩ : ∃ v, vs1[p.l.toNat]? = some v := gE
     have hv2 := hP.snd.pos hv
     refine rgn 19 <| sd ww [.p, .ld (p.rv), .p, .run ((Po (bof p.rv) (oof p.rv + k * 2))), .p, .ld (I6 x.1), .as (.bool true), .p, .no, .no, .no, .no, .no, .no, .no, .no, .no, .no, .p] [_, Rv (Instr.indexAt 71 (p.rv) (I6 k)) ((Po (bof p.rv) (oof p.rv + k * 2))) wl46, wl46.cell? ⟨bof p.rv, oof p.rv + k * 2, none⟩ = some (I6 x.1), Value.bool (((x.1 : Int) != 3)) = .bool true] [(51, .bool true)] [] 19 0 hS (hB49.k 1 (.c (ixr 61 k (hG.right p hpm)) (.c (((hG.right p hpm).ext0 (hbl21.t1 hEl46 hgn0)).cellAt (k * 2 + 0) (by omega) (ycells_at p.r k 0 x hxk (by omega))) (.c (as_ne_t (by omega)) .nil)))) fun a hS => sge hK55 ?_
     refine cond_t hS rfl ?_
     refine sdq 1 [.p] [] [(7, I6 257)] [] hS .nil fun a hS => wpIn_exit <| then_exit <| inBlock_miss rfl <| then_exit <| then_exit <| inBlock_hit <| hK44 _ _ <| sdq 19 [.p, .p, .p, .no, .no, .no, .no, .no, .no, .no, .no, .no, .no, .no, .no, .no, .no, .no, .p] [] [(81, .bool false)] [] hS .nil fun a hS => ?_
     refine cond_f hS rfl ?_
     refine wpIn_skip <| inBlock_normal <| hK26 _ _ <| rgn 3 <| sd ww [.p, .as (I6 (↑i + 1)), .p] [_] [(5, I6 (↑i + 1))] [] 3 0 hS (as6 (↑i + 1)) fun a hS => seg_end ?_
     exact ⟨(i + 1, vs1, gr), ⟨hS.kp [(1, (Pv w.heap.size)), (3, Sn S w2.heap.size), (4, .bool gr), (5, I6 (↑i + 1))], hEl46, by omega, hB48, hP.skip (.of hpi (m := 257) (by omega) hv (by omega))⟩, by simp only; omega⟩
    ·
     have hxn := hI.name hpm hxm h1
     have hu0 := zv_at hu
     rw [hu2, zv_top] at hu0
     have hEl46 : Ext [w2.heap.size] wl14 wl46 := hE42.trans0 hXl46
     have hTT : 257 ≤ (1 + sumV 257 (vf 257 vs1) (row p.r)) := by rw [← hm, sumV_m hxk h1 hu, hu2]; omega
     obtain ⟨v, hv⟩ : ∃ v, vs1[p.l.toNat]? = some v := gE
     have hv2 := hP.snd.pos hv
     refine rgn 19 <| sd ww [.p, .ld (p.rv), .p, .run ((Po (bof p.rv) (oof p.rv + k * 2))), .p, .ld (I6 x.1), .as (.bool false), .p, .p, .p, .ld (p.rv), .p, .run ((Po (bof p.rv) (oof p.rv + k * 2))), .p, .ld (I6 x.2), .run ((Po w2.heap.size (0 + x.2.toNat * 1))), .ld (I6 0), .p, .p] [_, Rv (Instr.indexAt 71 (p.rv) (I6 k)) ((Po (bof p.rv) (oof p.rv + k * 2))) wl46, wl46.cell? ⟨bof p.rv, oof p.rv + k * 2, none⟩ = some (I6 x.1), Value.bool (((x.1 : Int) != 3)) = .bool false, _, Rv (Instr.indexAt 71 (p.rv) (I6 k)) ((Po (bof p.rv) (oof p.rv + k * 2))) wl46, wl46.cell? ⟨bof p.rv, oof p.rv + k * 2 + 1, none⟩ = some (I6 x.2), Rv (Instr.indexAt 51 (Sn S w2.heap.size) (I6 x.2)) ((Po w2.heap.size (0 + x.2.toNat * 1))) wl46, wl46.cell? ⟨w2.heap.size, 0 + x.2.toNat * 1, none⟩ = some (I6 0)] [(51, .bool true)] [] 19 0 hS (hB49.k 1 (.c (ixr 61 k (hG.right p hpm)) (.c (((hG.right p hpm).ext0 (hbl21.t1 hEl46 hgn0)).cellAt (k * 2 + 0) (by omega) (ycells_at p.r k 0 x hxk (by omega))) (.c (as_ne_f (by omega)) (hB49.k 1 (.c (ixr 61 k (hG.right p hpm)) (.c (((hG.right p hpm).ext0 (hbl21.t1 hEl46 hgn0)).cellAt (k * 2 + 1) (by omega) (ycells_at p.r k 1 x hxk (by omega))) (.c (ixz 3 1 x.2) (.c ((hB48).cellAt _ (hu0)) .nil))))))))) fun a hS => sge hK55 ?_
     refine cond_t hS rfl ?_
     refine sdq 1 [.p] [] [(7, I6 257)] [] hS .nil fun a hS => wpIn_exit <| then_exit <| inBlock_miss rfl <| then_exit <| then_exit <| inBlock_hit <| hK44 _ _ <| sdq 19 [.p, .p, .p, .no, .no, .no, .no, .no, .no, .no, .no, .no, .no, .no, .no, .no, .no, .no, .p] [] [(81, .bool false)] [] hS .nil fun a hS => ?_
     refine cond_f hS rfl ?_
     refine wpIn_skip <| inBlock_normal <| hK26 _ _ <| rgn 3 <| sd ww [.p, .as (I6 (↑i + 1)), .p] [_] [(5, I6 (↑i + 1))] [] 3 0 hS (as6 (↑i + 1)) fun a hS => seg_end ?_
     exact ⟨(i + 1, vs1, gr), ⟨hS.kp [(1, (Pv w.heap.size)), (3, Sn S w2.heap.size), (4, .bool gr), (5, I6 (↑i + 1))], hEl46, by omega, hB48, hP.skip (.of hpi (m := 257) (by omega) hv (by omega))⟩, by simp only; omega⟩
    ·
     have hxn := hI.name hpm hxm h1
     have hu0 := zv_at hu
     rw [zv_ne hu2] at hu0
     have hup := hP.snd.pos hu
     have hsm := sumV_m (tc := 257) (top := 257) hxk h1 hu
     refine rgn 19 <| sd ww [.p, .ld (p.rv), .p, .run ((Po (bof p.rv) (oof p.rv + k * 2))), .p, .ld (I6 x.1), .as (.bool false), .p, .p, .p, .ld (p.rv), .p, .run ((Po (bof p.rv) (oof p.rv + k * 2))), .p, .ld (I6 x.2), .run ((Po w2.heap.size (0 + x.2.toNat * 1))), .ld (I6 u), .as (.bool false), .p] [_, Rv (Instr.indexAt 71 (p.rv) (I6 k)) ((Po (bof p.rv) (oof p.rv + k * 2))) wl46, wl46.cell? ⟨bof p.rv, oof p.rv + k * 2, none⟩ = some (I6 x.1), Value.bool (((x.1 : Int) != 3)) = .bool false, _, Rv (Instr.indexAt 71 (p.rv) (I6 k)) ((Po (bof p.rv) (oof p.rv + k * 2))) wl46, wl46.cell? ⟨bof p.rv, oof p.rv + k * 2 + 1, none⟩ = some (I6 x.2), Rv (Instr.indexAt 51 (Sn S w2.heap.size) (I6 x.2)) ((Po w2.heap.size (0 + x.2.toNat * 1))) wl46, wl46.cell? ⟨w2.heap.size, 0 + x.2.toNat * 1, none⟩ = some (I6 u), Value.bool (((↑u : Int) == 0)) = .bool false] [(51, .bool false)] [] 19 0 hS (hB49.k 1 (.c (ixr 61 k (hG.right p hpm)) (.c (((hG.right p hpm).ext0 (hbl46.trans0 hXl46)).cellAt (k * 2 + 0) (by omega) (ycells_at p.r k 0 x hxk (by omega))) (.c (as_ne_f (by omega)) (hB49.k 1 (.c (ixr 61 k (hG.right p hpm)) (.c (((hG.right p hpm).ext0 (hbl46.trans0 hXl46)).cellAt (k * 2 + 1) (by omega) (ycells_at p.r k 1 x hxk (by omega))) (.c (ixz 3 1 x.2) (.c ((hB48).cellAt _ (hu0)) (.c (as_eq_f (by omega)) .nil)))))))))) fun a hS => sge hK55 ?_
     refine cond_f hS rfl ?_
     refine wpIn_skip <| hK54 _ _ <| rgn 12 <| sd ww [.p, .p, .p, .ld (p.rv), .p, .run ((Po (bof p.rv) (oof p.rv + k * 2))), .p, .ld (I6 x.2), .run ((Po w2.heap.size (0 + x.2.toNat * 1))), .ld (I6 u), .as (I6 ((m + u : Nat) : Int)), .p] [_, Rv (Instr.indexAt 71 (p.rv) (I6 k)) ((Po (bof p.rv) (oof p.rv + k * 2))) wl46, wl46.cell? ⟨bof p.rv, oof p.rv + k * 2 + 1, none⟩ = some (I6 x.2), Rv (Instr.indexAt 51 (Sn S w2.heap.size) (I6 x.2)) ((Po w2.heap.size (0 + x.2.toNat * 1))) wl46, wl46.cell? ⟨w2.heap.size, 0 + x.2.toNat * 1, none⟩ = some (I6 u), Value.int .i64 (IntKind.i64.wrap (↑m + ↑u)) = I6 ((m + u : Nat) : Int)] [(7, I6 ((m + u : Nat) : Int))] [] 12 0 hS (hB49.k 1 (.c (ixr 61 k (hG.right p hpm)) (.c (((hG.right p hpm).ext0 (hbl46.trans0 hXl46)).cellAt (k * 2 + 1) (by omega) (ycells_at p.r k 1 x hxk (by omega))) (.c (ixz 3 1 x.2) (.c ((hB48).cellAt _ (hu0)) (.c ((by rw [show (↑m + ↑u : Int) = ((m + u : Nat) : Int) from by omega]; exact as_i64 (by omega))) .nil)))))) fun a hS => seg_end <| inBlock_normal <| hK53 _ _ <| rgn 3 <| sd ww [.p, .as (I6 (↑k + 1)), .p] [_] [(8, I6 (↑k + 1))] [] 3 0 hS (as6 (↑k + 1)) fun a hS => seg_end ?_
     exact ⟨(k + 1, (m + u)), ⟨hS.kp [(1, (Pv w.heap.size)), (3, Sn S w2.heap.size), (4, .bool gr), (5, I6 i), (6, (Pv wl21.heap.size)), (7, I6 ((m + u : Nat) : Int)), (8, I6 (↑k + 1))], hXl46, by omega, by omega, by omega⟩, by simp only; omega⟩
   ·
    replace hb52 := of_decide_eq_false hb52
    have hEl46 : Ext [w2.heap.size] wl14 wl46 := hE42.trans0 hXl46
    rw [List.drop_eq_nil_of_le (by rw [row_len]; omega), sumV, Nat.add_zero] at hm
    obtain ⟨v, hv⟩ : ∃ v, vs1[p.l.toNat]? = some v := gE
    have hv2 := hP.snd.pos hv
    refine xt2 <| hK44 _ _ <| sq fun K60 hK60 => ?_
    rcases (show (256 < m) ∨ (m ≤ 256 ∧ v = 257) ∨ (m ≤ 256 ∧ v ≠ 257 ∧ m < v) ∨ (m ≤ 256 ∧ v ≠ 257 ∧ ¬m < v) from by omega) with h1 | ⟨h1, h2⟩ | ⟨h1, h2, h3⟩ | ⟨h1, h2, h3⟩
    ·
     refine rgn 19 <| sd ww [.p, .as (.bool false), .p, .no, .no, .no, .no, .no, .no, .no, .no, .no, .no, .no, .no, .no, .no, .no, .p] [Value.bool (decide ((↑m : Int) ≤ 256)) = .bool false] [(81, .bool false)] [] 19 0 hS (.c (as_f (by omega)) .nil) fun a hS => sge hK60 ?_
     refine cond_f hS rfl ?_
     refine wpIn_skip <| inBlock_normal <| hK26 _ _ <| rgn 3 <| sd ww [.p, .as (I6 (↑i + 1)), .p] [_] [(5, I6 (↑i + 1))] [] 3 0 hS (as6 (↑i + 1)) fun a hS => seg_end ?_
     exact ⟨(i + 1, vs1, gr), ⟨hS.kp [(1, (Pv w.heap.size)), (3, Sn S w2.heap.size), (4, .bool gr), (5, I6 (↑i + 1))], hEl46, by omega, hB48, hP.skip (.of hpi (m := 257) (by omega) hv (by omega))⟩, by simp only; omega⟩
    ·
     have hv0 := zv_at hv
     rw [h2, zv_top] at hv0
     have hzl : (ivs (zvL vs1)).length = S.ns.length := by rw [zv_len]; exact hvl
     refine rgn 19 <| sd ww [.p, .as (.bool true), .p, .p, .p, .ld (I6 p.l), .run ((Po w2.heap.size (0 + p.l.toNat * 1))), .ld (I6 0), .p, .p, .no, .no, .no, .no, .no, .no, .no, .p, .p] [Value.bool (decide ((↑m : Int) ≤ 256)) = .bool true, _, Rv (Instr.indexAt 51 (Sn S w2.heap.size) (I6 p.l)) ((Po w2.heap.size (0 + p.l.toNat * 1))) wl46, wl46.cell? ⟨w2.heap.size, 0 + p.l.toNat * 1, none⟩ = some (I6 0)] [(81, .bool true)] [] 19 0 hS (.c (as_t (by omega)) (hB49.k 0 (.c (ixz 3 1 p.l) (.c ((hB48).cellAt _ (hv0)) .nil)))) fun a hS => sge hK60 ?_
     refine cond_t hS rfl ?_
     refine sq fun K61 hK61 => rgn 6 <| sd ww [.p, .p, .ld (I6 p.l), .p, .run ((Po w2.heap.size (0 + p.l.toNat * 1)))] [_, Rv (Instr.indexAt 51 (Sn S w2.heap.size) (I6 p.l)) ((Po w2.heap.size (0 + p.l.toNat * 1))) wl46] [(85, I6 m), (86, (Po w2.heap.size (0 + p.l.toNat * 1)))] [] 5 1 hS (hB49.k 0 (.c (ixz 3 1 p.l) .nil)) fun a hS => eff_store_own ww (r := 0) (b := w2.heap.size) (off := 0 + p.l.toNat * 1) (u := Value.int .i64 ↑m) (xs := (ivs (zvL vs1))) hS (by kernel_rfl) hB48 (by omega) fun a ws62 hOs62 hEs62 hsz62 hS => ?_
     have hE65 : Ext [w2.heap.size] wl14 ws62 := hEl46.trans hEs62 (fun b hb => by simp at hb; subst hb; exact .inl (by simp))
     refine sge hK61 <| rgn 1 <| sd ww [.p] [] [(4, .bool true)] [] 1 0 hS .nil fun a hS => seg_end <| inBlock_normal <| hK26 _ _ <| rgn 3 <| sd ww [.p, .as (I6 (↑i + 1)), .p] [_] [(5, I6 (↑i + 1))] [] 3 0 hS (as6 (↑i + 1)) fun a hS => seg_end ?_
     have hgs := hOs62
     rw [zv_set (by omega)] at hgs
     exact ⟨(i + 1, (vs1.set p.l.toNat m), true), ⟨hS.kp [(1, (Pv w.heap.size)), (3, Sn S w2.heap.size), (4, .bool true), (5, I6 (↑i + 1))], hE65, by omega, hgs, hP.set (hP.snd.set hpm (by omega) (m := m) (by omega) hv (by omega)) (sum_set_lt hv (by omega))⟩, by simp only; omega⟩
    ·
     have hv0 := zv_at hv
     rw [zv_ne h2] at hv0
     have hzl : (ivs (zvL vs1)).length = S.ns.length := by rw [zv_len]; exact hvl
     refine rgn 19 <| sd ww [.p, .as (.bool true), .p, .p, .p, .ld (I6 p.l), .run ((Po w2.heap.size (0 + p.l.toNat * 1))), .ld (I6 v), .as (.bool false), .p, .p, .p, .p, .ld (I6 p.l), .run ((Po w2.heap.size (0 + p.l.toNat * 1))), .ld (I6 v), .as (.bool true), .p, .p] [Value.bool (decide ((↑m : Int) ≤ 256)) = .bool true, _, Rv (Instr.indexAt 51 (Sn S w2.heap.size) (I6 p.l)) ((Po w2.heap.size (0 + p.l.toNat * 1))) wl46, wl46.cell? ⟨w2.heap.size, 0 + p.l.toNat * 1, none⟩ = some (I6 v), Value.bool (((↑v : Int) == 0)) = .bool false, _, Rv (Instr.indexAt 51 (Sn S w2.heap.size) (I6 p.l)) ((Po w2.heap.size (0 + p.l.toNat * 1))) wl46, wl46.cell? ⟨w2.heap.size, 0 + p.l.toNat * 1, none⟩ = some (I6 v), Value.bool (decide ((↑m : Int) < ↑v)) = .bool true] [(81, .bool true)] [] 19 0 hS (.c (as_t (by omega)) (hB49.k 0 (.c (ixz 3 1 p.l) (.c ((hB48).cellAt _ (hv0)) (.c (as_eq_f (by omega)) (hB49.k 0 (.c (ixz 3 1 p.l) (.c ((hB48).cellAt _ (hv0)) (.c (as_t (by omega)) .nil))))))))) fun a hS => sge hK60 ?_
     refine cond_t hS rfl ?_
     refine sq fun K66 hK66 => rgn 6 <| sd ww [.p, .p, .ld (I6 p.l), .p, .run ((Po w2.heap.size (0 + p.l.toNat * 1)))] [_, Rv (Instr.indexAt 51 (Sn S w2.heap.size) (I6 p.l)) ((Po w2.heap.size (0 + p.l.toNat * 1))) wl46] [(85, I6 m), (86, (Po w2.heap.size (0 + p.l.toNat * 1)))] [] 5 1 hS (hB49.k 0 (.c (ixz 3 1 p.l) .nil)) fun a hS => eff_store_own ww (r := 0) (b := w2.heap.size) (off := 0 + p.l.toNat * 1) (u := Value.int .i64 ↑m) (xs := (ivs (zvL vs1))) hS (by kernel_rfl) hB48 (by omega) fun a ws67 hOs67 hEs67 hsz67 hS => ?_
     have hE70 : Ext [w2.heap.size] wl14 ws67 := hEl46.trans hEs67 (fun b hb => by simp at hb; subst hb; exact .inl (by simp))
     refine sge hK66 <| rgn 1 <| sd ww [.p] [] [(4, .bool true)] [] 1 0 hS .nil fun a hS => seg_end <| inBlock_normal <| hK26 _ _ <| rgn 3 <| sd ww [.p, .as (I6 (↑i + 1)), .p] [_] [(5, I6 (↑i + 1))] [] 3 0 hS (as6 (↑i + 1)) fun a hS => seg_end ?_
     have hgs := hOs67
     rw [zv_set (by omega)] at hgs
     exact ⟨(i + 1, (vs1.set p.l.toNat m), true), ⟨hS.kp [(1, (Pv w.heap.size)), (3, Sn S w2.heap.size), (4, .bool true), (5, I6 (↑i + 1))], hE70, by omega, hgs, hP.set (hP.snd.set hpm (by omega) (m := m) (by omega) hv (by omega)) (sum_set_lt hv (by omega))⟩, by simp only; omega⟩
    ·
     have hv0 := zv_at hv
     rw [zv_ne h2] at hv0
     refine rgn 19 <| sd ww [.p, .as (.bool true), .p, .p, .p, .ld (I6 p.l), .run ((Po w2.heap.size (0 + p.l.toNat * 1))), .ld (I6 v), .as (.bool false), .p, .p, .p, .p, .ld (I6 p.l), .run ((Po w2.heap.size (0 + p.l.toNat * 1))), .ld (I6 v), .as (.bool false), .p, .p] [Value.bool (decide ((↑m : Int) ≤ 256)) = .bool true, _, Rv (Instr.indexAt 51 (Sn S w2.heap.size) (I6 p.l)) ((Po w2.heap.size (0 + p.l.toNat * 1))) wl46, wl46.cell? ⟨w2.heap.size, 0 + p.l.toNat * 1, none⟩ = some (I6 v), Value.bool (((↑v : Int) == 0)) = .bool false, _, Rv (Instr.indexAt 51 (Sn S w2.heap.size) (I6 p.l)) ((Po w2.heap.size (0 + p.l.toNat * 1))) wl46, wl46.cell? ⟨w2.heap.size, 0 + p.l.toNat * 1, none⟩ = some (I6 v), Value.bool (decide ((↑m : Int) < ↑v)) = .bool false] [(81, .bool false)] [] 19 0 hS (.c (as_t (by omega)) (hB49.k 0 (.c (ixz 3 1 p.l) (.c ((hB48).cellAt _ (hv0)) (.c (as_eq_f (by omega)) (hB49.k 0 (.c (ixz 3 1 p.l) (.c ((hB48).cellAt _ (hv0)) (.c (as_f (by omega)) .nil))))))))) fun a hS => sge hK60 ?_
     refine cond_f hS rfl ?_
     refine wpIn_skip <| inBlock_normal <| hK26 _ _ <| rgn 3 <| sd ww [.p, .as (I6 (↑i + 1)), .p] [_] [(5, I6 (↑i + 1))] [] 3 0 hS (as6 (↑i + 1)) fun a hS => seg_end ?_
     exact ⟨(i + 1, vs1, gr), ⟨hS.kp [(1, (Pv w.heap.size)), (3, Sn S w2.heap.size), (4, .bool gr), (5, I6 (↑i + 1))], hEl46, by omega, hB48, hP.skip (.of hpi (m := m) (by omega) hv h3)⟩, by simp only; omega⟩
  ·
   replace hb25 := of_decide_eq_false hb25
   have hEl21 : Ext [w2.heap.size] wm8 wl21 := hXl14.trans hXl21 (fun b hbM => by simp at hbM; rw [hbM]; exact .inl (by simp))
   have hie : i = S.ps.length := by omega
   rw [hie] at hP
   refine xt2 <| inBlock_normal ?_
   exact ⟨(vs1, gr), ⟨hS.kp [(1, (Pv w.heap.size)), (3, Sn S w2.heap.size), (4, .bool gr)], hEl21, hg2, hP.snd, fun h => (hP.cl h).2⟩, (show 2 * vs1.sum + gr.toNat < 2 * vs.sum + mo.toNat from by rw [hmo]; exact hP.more)⟩
 ·
  replace hb18 := hb18
  have hmo : mo = false := by simpa using hb18
  have hEl14 : Ext [] w wl14 := hE11.trans hXl14 (fun b hbM => by simp at hbM; rw [hbM]; exact .inr hE6.size)
  have hC := SmP.isC hs1 (hc1 hmo)
  refine xt2 <| hK12 _ _ <| sdq 2 [.p, .p] [] [(2, Sn S w2.heap.size)] [] hS .nil fun a hS => wpIn_ret ?_
  refine ret1 hS Tryd.results84 rfl ?_
  exact ⟨_, _, rfl, hg1, hs1.len, hC, hE6.size, hEl14⟩
theorem emptied_r {w0 w : World} {S : Sp} (hG : SpOk w0 S) (hb : Ext [] w0 w) (hI : Ix S) (h16 : ∀ p ∈ S.ps, p.r.length ≤ 16) :
  Calls Tryd.prog 49 #[.agg S.ca] w fun e w' => ∃ es vs, e = .returned (.tuple #[I6 (fE es vs 0).2, I6 (fE es vs 0).1]) ∧ IsD S.g false S.ns.length es ∧ vs.length = S.ns.length ∧ IsC S.g 1 257 257 (vf 257 vs) ∧ Ext [] w w' := by
 have hlmax := hG.lmax
 have hnmax := hG.nmax
 have hpmax := hG.pmax
 refine cbd 29 [(0, .agg S.ca)] Tryd.func49 rfl fun a hS => ?_
 have hE0 : Ext [] w w := Ext.refl _ _
 refine sq fun K1 hK1 => rgn 3 <| ebx 2 S.ca 26 (some 1) hS fun a w2 hw3 hS => ?_
 have hB4 := Blk.nw hw3
 have hs5 := hE0.size
 have hE6 := hE0.al hw3
 refine sd ww [.p, .p] [] [(2, I6 0), (3, I6 0)] [] 3 0 hS .nil fun a hS => sge hK1 <| sq fun K7 hK7 => rgn 3 <| sd ww [.lds [S.lv, S.nv, I6 S.st, S.pv]] [_, _, _, _] [(7, .agg S.ca)] [] 1 2 hS (hB4.k 0 (hB4.k 1 (hB4.k 2 (hB4.k 3 .nil)))) fun a hS => ecl 1 (some 8) hS Tryd.call84 #[.agg S.ca] (Empties_r hG (hb.trans0 hE6) hI h16) ?_
 rintro _ wc8 ⟨g8, vs8, rfl, hO8, hL8, hC8, hgn8, hEc8⟩
 refine ⟨_, rfl, fun a hS => ?_⟩
 have hB9 := hB4.ext hEc8 (by simp)
 have hE10 := hE6.trans0 hEc8
 refine sd ww [.p] [] [(4, Sn S g8)] [] 3 0 hS .nil fun a hS => sge hK7 <| sq fun K11 hK11 => rgn 3 <| sd ww [.lds [S.lv, S.nv, I6 S.st, S.pv]] [_, _, _, _] [(9, .agg S.ca)] [] 1 2 hS (hB9.k 0 (hB9.k 1 (hB9.k 2 (hB9.k 3 .nil)))) fun a hS => ecl 1 (some 10) hS Tryd.call22 #[.agg S.ca] (Nullable_r hG (hb.trans0 hE10) hI) ?_
 rintro _ wc12 ⟨g12, bs12, rfl, hO12, hD12, hgn12, hEc12⟩
 refine ⟨_, rfl, fun a hS => ?_⟩
 have hB14 := hO8.ext hEc12 (by simp)
 have hE15 := hE10.trans0 hEc12
 refine sd ww [.p] [] [(5, Sn S g12)] [] 3 0 hS .nil fun a hS => sge hK11 <| sq fun K16 hK16 => sdq 1 [.p] [] [(6, I6 0)] [] hS .nil fun a hS => wpIn_block ?_
 have hvl := hL8
 have hel := hD12.len
 have hbl18 := (hb.trans0 hE15)
 refine loop_ghost (fun (j : Nat) a' w' => St 29 [] [(4, Sn S g8), (5, Sn S g12), (6, I6 j)] a' ∧ Ext [] wc12 w' ∧ j ≤ S.ns.length ∧ fE bs12 vs8 0 = fE (bs12.drop j) (vs8.drop j) j) (fun (j : Nat) => S.ns.length - j) 0 ⟨hS.keepTo [4, 5, 6] (by kernel_rfl), Ext.refl _ _, by omega, rfl⟩ ?_
 rintro j a wl18 ⟨hS, hXl18, hj, ha⟩
 have hB20 := hB14.ext hXl18 (by simp)
 have hB21 := hO12.ext hXl18 (by simp)
 refine sq fun K22 hK22 => sdq 4 [.p, .p, .p, .p] [] [(14, .bool (decide ((↑j : Int) < ↑S.ns.length)))] [] hS .nil fun a hS => ?_
 refine cond_b hS rfl (fun hb24 => ?_) (fun hb24 => ?_)
 ·
  replace hb24 := of_decide_eq_true hb24
  obtain ⟨v, hv⟩ : ∃ v, vs8[j]? = some v := gE
  have hv2 := IsC.pos1 hC8 hv
  have hv0 := zv_at hv
  have hst := fun b hb => ha.trans (fE_step (b := b) hb hv)
  refine wpIn_skip <| hK22 _ _ <| sq fun K25 hK25 => wpIn_block <| sq fun K26 hK26 => ?_
  rcases (show (bs12[j]? = some false) ∨ (bs12[j]? = some true ∧ v = 257) ∨ (bs12[j]? = some true ∧ v ≠ 257) from by
   rcases bool_cases (bs := bs12) (j := j) (by omega) with h | h
   ·exact .inr ((Decidable.em (v = 257)).imp (fun h2 => ⟨h, h2⟩) (fun h2 => ⟨h, h2⟩))
   ·exact .inl h) with h1 | ⟨h1, h2⟩ | ⟨h1, h2⟩
  ·
   refine rgn 11 <| sd ww [.p, .p, .run ((Po g12 (0 + j * 1))), .ld (.bool false), .p, .no, .no, .no, .no, .no, .p] [Rv (Instr.indexAt 31 (Sn S g12) (I6 j)) ((Po g12 (0 + j * 1))) wl18, wl18.cell? ⟨g12, 0 + j * 1, none⟩ = some (.bool false)] [(27, .bool false)] [] 11 0 hS (.c (ixs 4 1 j) (.c ((hB21).cellAt _ (bls_at h1)) .nil)) fun a hS => sge hK26 ?_
   refine cond_f hS rfl ?_
   refine wpIn_skip <| inBlock_normal <| hK25 _ _ <| rgn 3 <| sd ww [.p, .as (I6 (↑j + 1)), .p] [_] [(6, I6 (↑j + 1))] [] 3 0 hS (as6 (↑j + 1)) fun a hS => seg_end ?_
   exact ⟨j + 1, ⟨hS.kp [(4, Sn S g8), (5, Sn S g12), (6, I6 (↑j + 1))], hXl18, by omega, (hst _ h1).trans (if_neg (by simp; try omega))⟩, by omega⟩
  ·
   rw [h2, zv_top] at hv0
   have hEl18 : Ext [] w wl18 := hE15.trans0 hXl18
   have hfe : fE bs12 vs8 0 = (6, (j : Int)) := (hst _ h1).trans (if_pos ⟨rfl, by omega⟩)
   refine rgn 11 <| sd ww [.p, .p, .run ((Po g12 (0 + j * 1))), .ld (.bool true), .p, .p, .p, .run ((Po g8 (0 + j * 1))), .ld (I6 0), .p, .p] [Rv (Instr.indexAt 31 (Sn S g12) (I6 j)) ((Po g12 (0 + j * 1))) wl18, wl18.cell? ⟨g12, 0 + j * 1, none⟩ = some (.bool true), Rv (Instr.indexAt 51 (Sn S g8) (I6 j)) ((Po g8 (0 + j * 1))) wl18, wl18.cell? ⟨g8, 0 + j * 1, none⟩ = some (I6 0)] [(27, .bool true)] [] 11 0 hS (.c (ixs 4 1 j) (.c ((hB21).cellAt _ (bls_at h1)) (.c (ixs 3 1 j) (.c ((hB20).cellAt _ (hv0)) .nil)))) fun a hS => sge hK26 ?_
   refine cond_t hS rfl ?_
   refine sdq 3 [.p, .p, .p] [] [(2, I6 j), (3, I6 6)] [] hS .nil fun a hS => wpIn_ret <| inBlock_ret <| then_ret <| then_ret <| inBlock_ret <| then_ret ?_
   refine ret2 hS Tryd.results49 rfl rfl ?_
   exact ⟨bs12, vs8, by rw [hfe], hD12, hL8, hC8, hEl18⟩
  ·
   rw [zv_ne h2] at hv0
   refine rgn 11 <| sd ww [.p, .p, .run ((Po g12 (0 + j * 1))), .ld (.bool true), .p, .p, .p, .run ((Po g8 (0 + j * 1))), .ld (I6 v), .as (.bool false), .p] [Rv (Instr.indexAt 31 (Sn S g12) (I6 j)) ((Po g12 (0 + j * 1))) wl18, wl18.cell? ⟨g12, 0 + j * 1, none⟩ = some (.bool true), Rv (Instr.indexAt 51 (Sn S g8) (I6 j)) ((Po g8 (0 + j * 1))) wl18, wl18.cell? ⟨g8, 0 + j * 1, none⟩ = some (I6 v), Value.bool (((↑v : Int) == 0)) = .bool false] [(27, .bool false)] [] 11 0 hS (.c (ixs 4 1 j) (.c ((hB21).cellAt _ (bls_at h1)) (.c (ixs 3 1 j) (.c ((hB20).cellAt _ (hv0)) (.c (as_eq_f (by omega)) .nil))))) fun a hS => sge hK26 ?_
   refine cond_f hS rfl ?_
   refine wpIn_skip <| inBlock_normal <| hK25 _ _ <| rgn 3 <| sd ww [.p, .as (I6 (↑j + 1)), .p] [_] [(6, I6 (↑j + 1))] [] 3 0 hS (as6 (↑j + 1)) fun a hS => seg_end ?_
   exact ⟨j + 1, ⟨hS.kp [(4, Sn S g8), (5, Sn S g12), (6, I6 (↑j + 1))], hXl18, by omega, (hst _ h1).trans (if_neg (by simp; try omega))⟩, by omega⟩
 ·
  replace hb24 := of_decide_eq_false hb24
  have hEl18 : Ext [] w wl18 := hE15.trans0 hXl18
  have hdr : bs12.drop j = [] := List.drop_eq_nil_of_le (by omega)
  rw [hdr] at ha
  have hfe : fE bs12 vs8 0 = (0, 0) := by rw [ha]; rfl
  refine xt2 <| hK16 _ _ <| sdq 2 [.p, .p] [] [(2, I6 0), (3, I6 0)] [] hS .nil fun a hS => wpIn_ret ?_
  refine ret2 hS Tryd.results49 rfl rfl ?_
  exact ⟨bs12, vs8, by rw [hfe], hD12, hL8, hC8, hEl18⟩
set_option maxHeartbeats 2000000 in
theorem reached_r {w0 w : World} {S : Sp} (hG : SpOk w0 S) (hb : Ext [] w0 w) (hI : Ix S) :
  Calls Tryd.prog 47 #[.agg S.ca] w fun e w' => ∃ x, e = .returned (.tuple #[I6 (rcE S x).2, I6 (rcE S x).1]) ∧ IsRc S x ∧ Ext [] w w' := by
 have hlmax := hG.lmax
 have hnmax := hG.nmax
 have hpmax := hG.pmax
 have hst := hI.st
 refine cbd 112 [(0, .agg S.ca)] Tryd.func47 rfl fun a hS => ?_
 have hE0 : Ext [] w w := Ext.refl _ _
 refine sq fun K1 hK1 => rgn 3 <| ebx 2 S.ca 26 (some 1) hS fun a w2 hw3 hS => ?_
 have hB4 := Blk.nw hw3
 have hs5 := hE0.size
 have hE6 := hE0.al hw3
 refine sd ww [.p, .p] [] [(2, I6 0), (3, I6 0)] [] 3 0 hS .nil fun a hS => sge hK1 <| sq fun K7 hK7 => rgn 5 <| sd ww [.p, .ld (S.nv), .run (I6 S.ns.length)] [_, Rv (Builtin.len_ #[23] 3 #[S.nv]) (I6 S.ns.length) w2] [(15, I6 S.ns.length)] [] 3 2 hS (hB4.k 1 (.c (rlr 9 hG.names) .nil)) fun a hS => ?_
 obtain ⟨wm8, hrm8, hOm8, hEm8, hsm8⟩ := make_full (P := Tryd.prog) (w := w2) (T := 31) (E := 4) (size := 1) (bytes := 1) (z := #[.bool false]) (Value.bool false) (l := S.ns.length) (by kernel_rfl) (by kernel_rfl) (by rfl) (by omega) (by omega) (by omega)
 refine eff_run ww (r := 1) (s := vS (Instr.makeSlice 31 (I6 S.ns.length) (I6 S.ns.length))) (d := (some 16)) (v := Sn S w2.heap.size) hS (by kernel_rfl) hrm8 fun a hS => ?_
 have hn8_8 := Nat.ne_of_lt hB4.lt
 have hB10 := hB4.ext hEm8 (by simp)
 have hE11 := hE6.trans0 hEm8
 have hr1 := hOm8
 rw [Nat.mul_one, bls_rep] at hr1
 have hgn1 : w0.heap.size ≤ w2.heap.size := Nat.le_trans hb.size hE6.size
 refine sd ww [.p] [] [(4, Sn S w2.heap.size)] [] 5 0 hS .nil fun a hS => sge hK7 <| sq fun K12 hK12 => rgn 5 <| sd ww [.p, .ld (S.lv), .run (I6 S.lx.length)] [_, Rv (Builtin.len_ #[22] 3 #[S.lv]) (I6 S.lx.length) wm8] [(19, I6 S.lx.length)] [] 3 2 hS (hB10.k 0 (.c (rlr 100 hG.lex) .nil)) fun a hS => ?_
 obtain ⟨wm13, hrm13, hOm13, hEm13, hsm13⟩ := make_full (P := Tryd.prog) (w := wm8) (T := 31) (E := 4) (size := 1) (bytes := 1) (z := #[.bool false]) (Value.bool false) (l := S.lx.length) (by kernel_rfl) (by kernel_rfl) (by rfl) (by omega) (by omega) (by omega)
 refine eff_run ww (r := 1) (s := vS (Instr.makeSlice 31 (I6 S.lx.length) (I6 S.lx.length))) (d := (some 20)) (v := Sl wm8.heap.size S.lx.length S.lx.length) hS (by kernel_rfl) hrm13 fun a hS => ?_
 have hn13_13 := Nat.ne_of_lt hB10.lt
 have hn13_14 := Nat.ne_of_lt hr1.lt
 have hB16 := hB10.ext hEm13 (by simp)
 have hB17 := hr1.ext hEm13 (by simp)
 have hE18 := hE11.trans0 hEm13
 have hr2 := hOm13
 rw [Nat.mul_one, bls_rep] at hr2
 have hgn2 : w0.heap.size ≤ wm8.heap.size := Nat.le_trans hb.size hE11.size
 refine sd ww [.p] [] [(5, Sl wm8.heap.size S.lx.length S.lx.length)] [] 5 0 hS .nil fun a hS => sge hK12 <| sq fun K19 hK19 => rgn 5 <| sd ww [.p, .p, .ld (I6 S.st), .run ((Po w2.heap.size (0 + S.st.toNat * 1)))] [_, Rv (Instr.indexAt 31 (Sn S w2.heap.size) (I6 S.st)) ((Po w2.heap.size (0 + S.st.toNat * 1))) wm13] [(24, (Po w2.heap.size (0 + S.st.toNat * 1)))] [] 4 1 hS (hB16.k 2 (.c (ixz 4 1 S.st) .nil)) fun a hS => eff_store_own ww (r := 0) (b := w2.heap.size) (off := 0 + S.st.toNat * 1) (u := Value.bool true) (xs := (bls (List.replicate S.ns.length false))) hS (by kernel_rfl) hB17 (by omega) fun a ws20 hOs20 hEs20 hsz20 hS => ?_
 have hB21 := hB16.ext hEs20 (by simpa using hn8_8)
 have hB22 := hr2.ext hEs20 (by simpa using (Ne.symm hn13_14))
 have hE23 : Ext [] w ws20 := hE18.trans hEs20 (fun b hb => by simp at hb; subst hb; exact .inr hE6.size)
 refine sge hK19 <| sq fun K24 hK24 => sq fun K25 hK25 => rgn 1 <| sg ww [.p] [] [(0, .agg S.ca), (1, (Pv w.heap.size)), (2, I6 0), (3, I6 0), (4, Sn S w2.heap.size), (5, Sl wm8.heap.size S.lx.length S.lx.length), (6, .bool true)] 1 0 hS .nil fun a hS => sge hK25 <| wpIn_block ?_
 have hg1s := hOs20
 rw [bls_set] at hg1s
 have hbl26 := (hb.trans0 hE23)
 refine loop_ghost (fun ((n1, n2, mo) : (List Bool) × (List Bool) × Bool) a' w' => St 112 [] [(1, (Pv w.heap.size)), (4, Sn S w2.heap.size), (5, Sl wm8.heap.size S.lx.length S.lx.length), (6, .bool mo)] a' ∧ Ext [w2.heap.size, wm8.heap.size] ws20 w' ∧ OwnR w' 4 1 (w2.heap.size) S.ns.length S.ns.length (bls n1) ∧ OwnR w' 4 1 (wm8.heap.size) S.lx.length S.lx.length (bls n2) ∧ RcS S (n1, n2) ∧ (mo = false → ∀ j, j < S.ps.length → RcC S j (n1, n2))) (fun ((n1, n2, mo) : (List Bool) × (List Bool) × Bool) => 2 * falses n1 + mo.toNat) (((List.replicate S.ns.length false).set S.st.toNat true), (List.replicate S.lx.length false), true) ⟨hS.keepTo [1, 4, 5, 6] (by kernel_rfl), Ext.refl _ _, hg1s, hB22, RcS.start hst, fun h => by cases h⟩ ?_
 rintro ⟨n1, n2, mo⟩ a wl26 ⟨hS, hXl26, hga, hgb, hs1, hc1⟩
 have hB27 := hB21.ext hXl26 (by simp; exact ⟨hn8_8, hn13_13⟩)
 refine sq fun K28 hK28 => sdq 1 [.p] [] [(25, .bool mo)] [] hS .nil fun a hS => ?_
 refine cond_b hS rfl (fun hb30 => ?_) (fun hb30 => ?_)
 ·
  replace hb30 := hb30
  have hmo : mo = true := hb30
  refine wpIn_skip <| hK28 _ _ <| wpIn_block <| sdq 1 [.p] [] [(6, .bool false)] [] hS .nil fun a hS => sdq 1 [.p] [] [(7, I6 0)] [] hS .nil fun a hS => wpIn_block ?_
  have hbl33 : Ext [] w0 wl26 := (hbl26.trans hXl26 (fun b hbM => by simp at hbM; exact hbM.elim (fun hbM => by rw [hbM]; exact .inr hgn1) fun hbM => by rw [hbM]; exact .inr hgn2))
  refine loop_ghost (fun ((i, a1, a2, gr) : Nat × (List Bool) × (List Bool) × Bool) a' w' => St 112 [] [(1, (Pv w.heap.size)), (4, Sn S w2.heap.size), (5, Sl wm8.heap.size S.lx.length S.lx.length), (6, .bool gr), (7, I6 i)] a' ∧ Ext [w2.heap.size, wm8.heap.size] wl26 w' ∧ i ≤ S.ps.length ∧ OwnR w' 4 1 (w2.heap.size) S.ns.length S.ns.length (bls a1) ∧ OwnR w' 4 1 (wm8.heap.size) S.lx.length S.lx.length (bls a2) ∧ RcQ S i n1 (a1, a2) gr) (fun ((i, a1, a2, gr) : Nat × (List Bool) × (List Bool) × Bool) => S.ps.length - i) (0, n1, n2, false) ⟨hS.keepTo [1, 4, 5, 6, 7] (by kernel_rfl), Ext.refl _ _, by omega, hga, hgb, RcQ.start hs1⟩ ?_
  rintro ⟨i, a1, a2, gr⟩ a wl33 ⟨hS, hXl33, hi, hgc, hgd, hP⟩
  have hB34 := hB27.ext hXl33 (by simp; exact ⟨hn8_8, hn13_13⟩)
  refine sq fun K35 hK35 => sdq 5 [.p, .p, .ld (S.pv), .run (I6 S.ps.length), .p] [_, Rv (Builtin.len_ #[24] 3 #[S.pv]) (I6 S.ps.length) wl33] [(30, .bool (decide ((↑i : Int) < ↑S.ps.length)))] [] hS (hB34.k 3 (.c (rlr 73 hG.prods) .nil)) fun a hS => ?_
  refine cond_b hS rfl (fun hb37 => ?_) (fun hb37 => ?_)
  ·
   replace hb37 := of_decide_eq_true hb37
   obtain ⟨p, hpi⟩ : ∃ p, S.ps[i]? = some p := gE
   have hpm := List.mem_of_getElem? hpi
   have hrm := hG.rmax p hpm
   have hpl := hI.pl hpm
   have hl1 : a1.length = S.ns.length := hP.snd.l1
   have hl2 : a2.length = S.lx.length := hP.snd.l2
   refine wpIn_skip <| hK35 _ _ <| sq fun K38 hK38 => wpIn_block <| sq fun K39 hK39 => rgn 7 <| sd ww [.p, .ld (S.pv), .p, .run ((Po (bof S.pv) (oof S.pv + i * 2))), .lds [I6 p.l, p.rv]] [_, Rv (Instr.indexAt 24 (S.pv) (I6 i)) ((Po (bof S.pv) (oof S.pv + i * 2))) wl33, wl33.cell? ⟨bof S.pv, oof S.pv + i * 2, none⟩ = some (I6 p.l), wl33.cell? ⟨bof S.pv, oof S.pv + i * 2 + 1, none⟩ = some (p.rv)] [(37, .agg #[I6 p.l, p.rv])] [] 5 2 hS (hB34.k 3 (.c (ixr 73 i hG.prods) (.c ((hG.prods.ext0 (hbl33.trans hXl33 (fun b hbM => by simp at hbM; exact hbM.elim (fun hbM => by rw [hbM]; exact .inr hgn1) fun hbM => by rw [hbM]; exact .inr hgn2))).cellAt (i * 2 + 0) (by omega) (pcells_at S.ps i 0 p hpi (by omega))) (.c ((hG.prods.ext0 (hbl33.trans hXl33 (fun b hbM => by simp at hbM; exact hbM.elim (fun hbM => by rw [hbM]; exact .inr hgn1) fun hbM => by rw [hbM]; exact .inr hgn2))).cellAt (i * 2 + 1) (by omega) (pcells_at S.ps i 1 p hpi (by omega))) .nil)))) fun a hS => ebx 1 #[I6 0, .slice none 0 0] 73 (some 8) hS fun a w40 hw41 hS => ?_
   have hn43 := Nat.ne_of_lt hgc.lt
   have hn44 := Nat.ne_of_lt hgd.lt
   have hB46 := OwnR.at' hw41 (hgc.alloc _)
   have hB47 := OwnR.at' hw41 (hgd.alloc _)
   have hB48 := Blk.nw hw41
   have hs49 := hXl33.size
   have hE50 := hXl33.al hw41
   refine est 0 wl33.heap.size 0 [I6 p.l, p.rv] hS hB48 fun a w51 hw52 hS => ?_
   have hB54 := OwnR.at' hw52 (hB46.updNe (Ne.symm hn43) _ _)
   have hB55 := OwnR.at' hw52 (hB47.updNe (Ne.symm hn44) _ _)
   have hB56 : Blk w51 wl33.heap.size 73 (#[I6 p.l, p.rv]) := hB48.up hw52
   have hE57 := hE50.ui hw52 hs49
   refine sge hK39 <| sq fun K58 hK58 => ?_
   rcases (show (a1[p.l.toNat]? = some true) ∨ (a1[p.l.toNat]? = some false) from bool_cases (by omega)) with h1 | h1
   ·
    refine rgn 1 <| sd ww [.p] [] [(9, I6 0)] [] 1 0 hS .nil fun a hS => sge hK58 <| wpIn_block ?_
    have hbl59 : Ext [] w0 w51 := (hbl33.trans hE57 (fun b hbM => by simp at hbM; exact hbM.elim (fun hbM => by rw [hbM]; exact .inr hgn1) fun hbM => by rw [hbM]; exact .inr hgn2))
    refine loop_ghost (fun ((k, m1, m2, hr) : Nat × (List Bool) × (List Bool) × Bool) a' w' => St 112 [] [(1, (Pv w.heap.size)), (4, Sn S w2.heap.size), (5, Sl wm8.heap.size S.lx.length S.lx.length), (7, I6 i), (8, (Pv wl33.heap.size)), (9, I6 k), (6, .bool hr)] a' ∧ Ext [w2.heap.size, wm8.heap.size] w51 w' ∧ k ≤ p.r.length ∧ OwnR w' 4 1 (w2.heap.size) S.ns.length S.ns.length (bls m1) ∧ OwnR w' 4 1 (wm8.heap.size) S.lx.length S.lx.length (bls m2) ∧ RcJ S i p k n1 (m1, m2) hr) (fun ((k, m1, m2, hr) : Nat × (List Bool) × (List Bool) × Bool) => p.r.length - k) (0, a1, a2, gr) ⟨hS.keepTo [1, 4, 5, 7, 8, 9, 6] (by kernel_rfl), Ext.refl _ _, by omega, hB54, hB55, .start hP h1⟩ ?_
    rintro ⟨k, m1, m2, hr⟩ a wl59 ⟨hS, hXl59, hk, hge, hgf, hQ⟩
    have hB61 := hB56.ext hXl59 (by simp; exact ⟨(Ne.symm hn43), (Ne.symm hn44)⟩)
    have hl1 : m1.length = S.ns.length := hQ.h.snd.l1
    have hl2 : m2.length = S.lx.length := hQ.h.snd.l2
    have hon : m1[p.l.toNat]? = some true := hQ.l
    refine sq fun K62 hK62 => sq fun K63 hK63 => ?_
    rcases (show (k < p.r.length) ∨ (p.r.length ≤ k) from by omega) with hkl | hkl
    ·
     obtain ⟨x, hxk⟩ : ∃ x, p.r[k]? = some x := gE
     have hxm := List.mem_of_getElem? hxk
     refine rgn 12 <| sd ww [.p, .p, .ld (p.rv), .run (I6 p.r.length), .as (.bool true), .p, .p, .p, .ld (I6 p.l), .run ((Po w2.heap.size (0 + p.l.toNat * 1))), .ld (.bool true), .p] [_, Rv (Builtin.len_ #[71] 3 #[p.rv]) (I6 p.r.length) wl59, Value.bool (decide ((↑k : Int) < ↑p.r.length)) = .bool true, _, Rv (Instr.indexAt 31 (Sn S w2.heap.size) (I6 p.l)) ((Po w2.heap.size (0 + p.l.toNat * 1))) wl59, wl59.cell? ⟨w2.heap.size, 0 + p.l.toNat * 1, none⟩ = some (.bool true)] [(49, .bool true)] [] 12 0 hS (hB61.k 1 (.c (rlr 61 (hG.right p hpm)) (.c (as_t (by omega)) (hB61.k 0 (.c (ixz 4 1 p.l) (.c ((hge).cellAt _ (bls_at hon)) .nil)))))) fun a hS => sge hK63 ?_
     refine cond_t hS rfl ?_
     refine wpIn_skip <| hK62 _ _ <| sq fun K64 hK64 => wpIn_block <| sq fun K65 hK65 => rgn 7 <| sd ww [.p, .ld (p.rv), .p, .run ((Po (bof p.rv) (oof p.rv + k * 2))), .lds [I6 x.1, I6 x.2]] [_, Rv (Instr.indexAt 71 (p.rv) (I6 k)) ((Po (bof p.rv) (oof p.rv + k * 2))) wl59, wl59.cell? ⟨bof p.rv, oof p.rv + k * 2, none⟩ = some (I6 x.1), wl59.cell? ⟨bof p.rv, oof p.rv + k * 2 + 1, none⟩ = some (I6 x.2)] [(56, .agg #[I6 x.1, I6 x.2])] [] 5 2 hS (hB61.k 1 (.c (ixr 61 k (hG.right p hpm)) (.c (((hG.right p hpm).ext0 (hbl59.trans hXl59 (fun b hbM => by simp at hbM; exact hbM.elim (fun hbM => by rw [hbM]; exact .inr hgn1) fun hbM => by rw [hbM]; exact .inr hgn2))).cellAt (k * 2 + 0) (by omega) (ycells_at p.r k 0 x hxk (by omega))) (.c (((hG.right p hpm).ext0 (hbl59.trans hXl59 (fun b hbM => by simp at hbM; exact hbM.elim (fun hbM => by rw [hbM]; exact .inr hgn1) fun hbM => by rw [hbM]; exact .inr hgn2))).cellAt (k * 2 + 1) (by omega) (ycells_at p.r k 1 x hxk (by omega))) .nil)))) fun a hS => ebx 1 #[I6 0, I6 0] 61 (some 10) hS fun a w66 hw67 hS => ?_
     have hn70 := Nat.ne_of_lt hge.lt
     have hn71 := Nat.ne_of_lt hgf.lt
     have hB74 := OwnR.at' hw67 (hge.alloc _)
     have hB75 := OwnR.at' hw67 (hgf.alloc _)
     have hB76 := Blk.nw hw67
     have hs77 := hXl59.size
     have hE78 := hXl59.al hw67
     refine est 0 wl59.heap.size 0 [I6 x.1, I6 x.2] hS hB76 fun a w79 hw80 hS => ?_
     have hB83 := OwnR.at' hw80 (hB74.updNe (Ne.symm hn70) _ _)
     have hB84 := OwnR.at' hw80 (hB75.updNe (Ne.symm hn71) _ _)
     have hB85 : Blk w79 wl59.heap.size 61 (#[I6 x.1, I6 x.2]) := hB76.up hw80
     have hE86 := hE78.ui hw80 hs77
     refine sge hK65 <| sq fun K87 hK87 => sq fun K88 hK88 => ?_
     rcases (show (x.1 = 1 ∧ 0 ≤ x.2 ∧ x.2 < S.lx.length ∧ sm x = .t x.2.toNat) ∨ (x.1 = 2 ∧ x.2 = 0 ∧ sm x = .e) ∨ ((x.1 = 3 ∧ 0 ≤ x.2 ∧ x.2 < S.ns.length ∧ sm x = .m x.2.toNat) ∧ m1[x.2.toNat]? = some true) ∨ ((x.1 = 3 ∧ 0 ≤ x.2 ∧ x.2 < S.ns.length ∧ sm x = .m x.2.toNat) ∧ m1[x.2.toNat]? = some false) from by
      rcases hI.kinds hpm hxm with h | h | h
      ·exact .inl h
      ·exact .inr (.inl h)
      ·exact .inr (.inr ((bool_cases (by omega)).imp (fun h' => ⟨h, h'⟩) (fun h' => ⟨h, h'⟩)))) with ⟨h1', h2, h3, h4⟩ | ⟨h1', h2, h4⟩ | ⟨⟨h1', h2, h3, h4⟩, h5⟩ | ⟨⟨h1', h2, h3, h4⟩, h5⟩
     ·
      have hbm : (bls m2).length = S.lx.length := by rw [bls_len]; exact hl2
      refine rgn 11 <| sd ww [.p, .ld (I6 x.1), .as (.bool false), .p, .no, .no, .no, .no, .no, .no, .p] [_, Value.bool (((x.1 : Int) == 3)) = .bool false] [(67, .bool false)] [] 11 0 hS (hB85.k 0 (.c (as_eq_f (by omega)) .nil)) fun a hS => sge hK88 ?_
      refine cond_f hS rfl ?_
      refine wpIn_skip <| hK87 _ _ <| sdq 3 [.p, .ld (I6 x.1), .as (.bool true)] [_, Value.bool (((x.1 : Int) == 1)) = .bool true] [(74, .bool true)] [] hS (hB85.k 0 (.c (as_eq_t (by omega)) .nil)) fun a hS => ?_
      refine cond_t hS rfl ?_
      refine rgn 5 <| sd ww [.p, .p, .ld (I6 x.2), .run ((Po wm8.heap.size (0 + x.2.toNat * 1)))] [_, Rv (Instr.indexAt 31 (Sl wm8.heap.size S.lx.length S.lx.length) (I6 x.2)) ((Po wm8.heap.size (0 + x.2.toNat * 1))) w79] [(78, (Po wm8.heap.size (0 + x.2.toNat * 1)))] [] 4 1 hS (hB85.k 1 (.c (ixz 4 1 x.2) .nil)) fun a hS => eff_store_own ww (r := 0) (b := wm8.heap.size) (off := 0 + x.2.toNat * 1) (u := Value.bool true) (xs := (bls m2)) hS (by kernel_rfl) hB84 (by omega) fun a ws90 hOs90 hEs90 hsz90 hS => ?_
      have hB93 := hB83.ext hEs90 (by simpa using hn13_14)
      have hE95 : Ext [w2.heap.size, wm8.heap.size] w51 ws90 := hE86.trans hEs90 (fun b hb => by simp at hb; subst hb; exact .inl (by simp))
      refine seg_end <| inBlock_normal <| hK64 _ _ <| rgn 3 <| sd ww [.p, .as (I6 (↑k + 1)), .p] [_] [(9, I6 (↑k + 1))] [] 3 0 hS (as6 (↑k + 1)) fun a hS => seg_end ?_
      have hgs := hOs90
      rw [bls_set] at hgs
      exact ⟨(k + 1, m1, (m2.set x.2.toNat true), hr), ⟨hS.kp [(1, (Pv w.heap.size)), (4, Sn S w2.heap.size), (5, Sl wm8.heap.size S.lx.length S.lx.length), (7, I6 i), (8, (Pv wl33.heap.size)), (9, I6 (↑k + 1)), (6, .bool hr)], hE95, by omega, hB93, hgs, hQ.m2 hpm hxk h4 (by omega)⟩, by simp only; omega⟩
     ·
      refine rgn 11 <| sd ww [.p, .ld (I6 x.1), .as (.bool false), .p, .no, .no, .no, .no, .no, .no, .p] [_, Value.bool (((x.1 : Int) == 3)) = .bool false] [(67, .bool false)] [] 11 0 hS (hB85.k 0 (.c (as_eq_f (by omega)) .nil)) fun a hS => sge hK88 ?_
      refine cond_f hS rfl ?_
      refine wpIn_skip <| hK87 _ _ <| sdq 3 [.p, .ld (I6 x.1), .as (.bool false)] [_, Value.bool (((x.1 : Int) == 1)) = .bool false] [(74, .bool false)] [] hS (hB85.k 0 (.c (as_eq_f (by omega)) .nil)) fun a hS => ?_
      refine cond_f hS rfl ?_
      refine wpIn_skip <| inBlock_normal <| hK64 _ _ <| rgn 3 <| sd ww [.p, .as (I6 (↑k + 1)), .p] [_] [(9, I6 (↑k + 1))] [] 3 0 hS (as6 (↑k + 1)) fun a hS => seg_end ?_
      exact ⟨(k + 1, m1, m2, hr), ⟨hS.kp [(1, (Pv w.heap.size)), (4, Sn S w2.heap.size), (5, Sl wm8.heap.size S.lx.length S.lx.length), (7, I6 i), (8, (Pv wl33.heap.size)), (9, I6 (↑k + 1)), (6, .bool hr)], hE86, by omega, hB83, hB84, hQ.pass hxk (by rw [h4]; trivial)⟩, by simp only; omega⟩
     ·
      have hbm : (bls m1).length = S.ns.length := by rw [bls_len]; exact hl1
      refine rgn 11 <| sd ww [.p, .ld (I6 x.1), .as (.bool true), .p, .p, .p, .ld (I6 x.2), .run ((Po w2.heap.size (0 + x.2.toNat * 1))), .ld (.bool true), .p, .p] [_, Value.bool (((x.1 : Int) == 3)) = .bool true, _, Rv (Instr.indexAt 31 (Sn S w2.heap.size) (I6 x.2)) ((Po w2.heap.size (0 + x.2.toNat * 1))) w79, w79.cell? ⟨w2.heap.size, 0 + x.2.toNat * 1, none⟩ = some (.bool true)] [(67, .bool false)] [] 11 0 hS (hB85.k 0 (.c (as_eq_t (by omega)) (hB85.k 1 (.c (ixz 4 1 x.2) (.c ((hB83).cellAt _ (bls_at h5)) .nil))))) fun a hS => sge hK88 ?_
      refine cond_f hS rfl ?_
      refine wpIn_skip <| hK87 _ _ <| sdq 3 [.p, .ld (I6 x.1), .as (.bool false)] [_, Value.bool (((x.1 : Int) == 1)) = .bool false] [(74, .bool false)] [] hS (hB85.k 0 (.c (as_eq_f (by omega)) .nil)) fun a hS => ?_
      refine cond_f hS rfl ?_
      refine wpIn_skip <| inBlock_normal <| hK64 _ _ <| rgn 3 <| sd ww [.p, .as (I6 (↑k + 1)), .p] [_] [(9, I6 (↑k + 1))] [] 3 0 hS (as6 (↑k + 1)) fun a hS => seg_end ?_
      exact ⟨(k + 1, m1, m2, hr), ⟨hS.kp [(1, (Pv w.heap.size)), (4, Sn S w2.heap.size), (5, Sl wm8.heap.size S.lx.length S.lx.length), (7, I6 i), (8, (Pv wl33.heap.size)), (9, I6 (↑k + 1)), (6, .bool hr)], hE86, by omega, hB83, hB84, hQ.pass hxk (by rw [h4]; exact h5)⟩, by simp only; omega⟩
     ·
      have hbm : (bls m1).length = S.ns.length := by rw [bls_len]; exact hl1
      refine rgn 11 <| sd ww [.p, .ld (I6 x.1), .as (.bool true), .p, .p, .p, .ld (I6 x.2), .run ((Po w2.heap.size (0 + x.2.toNat * 1))), .ld (.bool false), .p, .p] [_, Value.bool (((x.1 : Int) == 3)) = .bool true, _, Rv (Instr.indexAt 31 (Sn S w2.heap.size) (I6 x.2)) ((Po w2.heap.size (0 + x.2.toNat * 1))) w79, w79.cell? ⟨w2.heap.size, 0 + x.2.toNat * 1, none⟩ = some (.bool false)] [(67, .bool true)] [] 11 0 hS (hB85.k 0 (.c (as_eq_t (by omega)) (hB85.k 1 (.c (ixz 4 1 x.2) (.c ((hB83).cellAt _ (bls_at h5)) .nil))))) fun a hS => sge hK88 ?_
      refine cond_t hS rfl ?_
      refine sq fun K98 hK98 => rgn 5 <| sd ww [.p, .p, .ld (I6 x.2), .run ((Po w2.heap.size (0 + x.2.toNat * 1)))] [_, Rv (Instr.indexAt 31 (Sn S w2.heap.size) (I6 x.2)) ((Po w2.heap.size (0 + x.2.toNat * 1))) w79] [(71, (Po w2.heap.size (0 + x.2.toNat * 1)))] [] 4 1 hS (hB85.k 1 (.c (ixz 4 1 x.2) .nil)) fun a hS => eff_store_own ww (r := 0) (b := w2.heap.size) (off := 0 + x.2.toNat * 1) (u := Value.bool true) (xs := (bls m1)) hS (by kernel_rfl) hB83 (by omega) fun a ws99 hOs99 hEs99 hsz99 hS => ?_
      have hB102 := hB84.ext hEs99 (by simpa using (Ne.symm hn13_14))
      have hB103 := hB85.ext hEs99 (by simpa using (Ne.symm hn70))
      have hE104 : Ext [w2.heap.size, wm8.heap.size] w51 ws99 := hE86.trans hEs99 (fun b hb => by simp at hb; subst hb; exact .inl (by simp))
      refine sge hK98 <| rgn 1 <| sd ww [.p] [] [(6, .bool true)] [] 1 0 hS .nil fun a hS => sge hK87 <| sdq 3 [.p, .ld (I6 x.1), .as (.bool false)] [_, Value.bool (((x.1 : Int) == 1)) = .bool false] [(74, .bool false)] [] hS (hB103.k 0 (.c (as_eq_f (by omega)) .nil)) fun a hS => ?_
      refine cond_f hS rfl ?_
      refine wpIn_skip <| inBlock_normal <| hK64 _ _ <| rgn 3 <| sg ww [.p, .as (I6 (↑k + 1)), .p] [_] [(1, (Pv w.heap.size)), (4, Sn S w2.heap.size), (5, Sl wm8.heap.size S.lx.length S.lx.length), (7, I6 i), (8, (Pv wl33.heap.size)), (9, I6 (↑k + 1)), (6, .bool true), (49, .bool true), (10, (Pv wl59.heap.size)), (67, .bool true), (74, .bool false)] 3 0 hS (as6 (↑k + 1)) fun a hS => seg_end ?_
      have hgs := hOs99
      rw [bls_set] at hgs
      exact ⟨(k + 1, (m1.set x.2.toNat true), m2, true), ⟨hS.kp [(1, (Pv w.heap.size)), (4, Sn S w2.heap.size), (5, Sl wm8.heap.size S.lx.length S.lx.length), (7, I6 i), (8, (Pv wl33.heap.size)), (9, I6 (↑k + 1)), (6, .bool true)], hE104, by omega, hgs, hB102, hQ.m1 hpm hxm h4 (by omega) h5⟩, by simp only; omega⟩
    ·
     have hEl59 : Ext [w2.heap.size, wm8.heap.size] wl26 wl59 := hE57.trans hXl59 (fun b hbM => by simp at hbM; exact hbM.elim (fun hbM => by rw [hbM]; exact .inl (by simp)) fun hbM => by rw [hbM]; exact .inl (by simp))
     have hke : k = p.r.length := by omega
     rw [hke] at hQ
     refine rgn 12 <| sd ww [.p, .p, .ld (p.rv), .run (I6 p.r.length), .as (.bool false), .p, .no, .no, .no, .no, .no, .p] [_, Rv (Builtin.len_ #[71] 3 #[p.rv]) (I6 p.r.length) wl59, Value.bool (decide ((↑k : Int) < ↑p.r.length)) = .bool false] [(49, .bool false)] [] 12 0 hS (hB61.k 1 (.c (rlr 61 (hG.right p hpm)) (.c (as_f (by omega)) .nil))) fun a hS => sge hK63 ?_
     refine cond_f hS rfl ?_
     refine xt2 <| inBlock_normal <| hK38 _ _ <| rgn 3 <| sd ww [.p, .as (I6 (↑i + 1)), .p] [_] [(7, I6 (↑i + 1))] [] 3 0 hS (as6 (↑i + 1)) fun a hS => seg_end ?_
     exact ⟨(i + 1, m1, m2, hr), ⟨hS.kp [(1, (Pv w.heap.size)), (4, Sn S w2.heap.size), (5, Sl wm8.heap.size S.lx.length S.lx.length), (6, .bool hr), (7, I6 (↑i + 1))], hEl59, by omega, hge, hgf, hQ.done hpi⟩, by simp only; omega⟩
   ·
    refine rgn 1 <| sd ww [.p] [] [(9, I6 0)] [] 1 0 hS .nil fun a hS => sge hK58 <| wpIn_block ?_
    have hbl106 : Ext [] w0 w51 := (hbl33.trans hE57 (fun b hbM => by simp at hbM; exact hbM.elim (fun hbM => by rw [hbM]; exact .inr hgn1) fun hbM => by rw [hbM]; exact .inr hgn2))
    refine loop_ghost (fun (k : Nat) a' w' => St 112 [] [(1, (Pv w.heap.size)), (4, Sn S w2.heap.size), (5, Sl wm8.heap.size S.lx.length S.lx.length), (7, I6 i), (8, (Pv wl33.heap.size)), (9, I6 k), (6, .bool gr)] a' ∧ Ext [] w51 w' ∧ k ≤ p.r.length) (fun (k : Nat) => p.r.length - k) 0 ⟨hS.keepTo [1, 4, 5, 7, 8, 9, 6] (by kernel_rfl), Ext.refl _ _, by omega⟩ ?_
    rintro k a wl106 ⟨hS, hXl106, hk⟩
    have hB108 := hB54.ext hXl106 (by simp)
    have hB109 := hB55.ext hXl106 (by simp)
    have hB110 := hB56.ext hXl106 (by simp)
    refine sq fun K111 hK111 => sq fun K112 hK112 => ?_
    rcases (show (k < p.r.length) ∨ (p.r.length ≤ k) from by omega) with hkl | hkl
    ·
     have hEl106 : Ext [w2.heap.size, wm8.heap.size] wl26 wl106 := hE57.trans0 hXl106
     refine rgn 12 <| sd ww [.p, .p, .ld (p.rv), .run (I6 p.r.length), .as (.bool true), .p, .p, .p, .ld (I6 p.l), .run ((Po w2.heap.size (0 + p.l.toNat * 1))), .ld (.bool false), .p] [_, Rv (Builtin.len_ #[71] 3 #[p.rv]) (I6 p.r.length) wl106, Value.bool (decide ((↑k : Int) < ↑p.r.length)) = .bool true, _, Rv (Instr.indexAt 31 (Sn S w2.heap.size) (I6 p.l)) ((Po w2.heap.size (0 + p.l.toNat * 1))) wl106, wl106.cell? ⟨w2.heap.size, 0 + p.l.toNat * 1, none⟩ = some (.bool false)] [(49, .bool false)] [] 12 0 hS (hB110.k 1 (.c (rlr 61 (hG.right p hpm)) (.c (as_t (by omega)) (hB110.k 0 (.c (ixz 4 1 p.l) (.c ((hB108).cellAt _ (bls_at h1)) .nil)))))) fun a hS => sge hK112 ?_
     refine cond_f hS rfl ?_
     refine xt2 <| inBlock_normal <| hK38 _ _ <| rgn 3 <| sd ww [.p, .as (I6 (↑i + 1)), .p] [_] [(7, I6 (↑i + 1))] [] 3 0 hS (as6 (↑i + 1)) fun a hS => seg_end ?_
     exact ⟨(i + 1, a1, a2, gr), ⟨hS.kp [(1, (Pv w.heap.size)), (4, Sn S w2.heap.size), (5, Sl wm8.heap.size S.lx.length S.lx.length), (6, .bool gr), (7, I6 (↑i + 1))], hEl106, by omega, hB108, hB109, hP.pass hpi h1⟩, by simp only; omega⟩
    ·
     have hEl106 : Ext [w2.heap.size, wm8.heap.size] wl26 wl106 := hE57.trans0 hXl106
     refine rgn 12 <| sd ww [.p, .p, .ld (p.rv), .run (I6 p.r.length), .as (.bool false), .p, .no, .no, .no, .no, .no, .p] [_, Rv (Builtin.len_ #[71] 3 #[p.rv]) (I6 p.r.length) wl106, Value.bool (decide ((↑k : Int) < ↑p.r.length)) = .bool false] [(49, .bool false)] [] 12 0 hS (hB110.k 1 (.c (rlr 61 (hG.right p hpm)) (.c (as_f (by omega)) .nil))) fun a hS => sge hK112 ?_
     refine cond_f hS rfl ?_
     refine xt2 <| inBlock_normal <| hK38 _ _ <| rgn 3 <| sd ww [.p, .as (I6 (↑i + 1)), .p] [_] [(7, I6 (↑i + 1))] [] 3 0 hS (as6 (↑i + 1)) fun a hS => seg_end ?_
     exact ⟨(i + 1, a1, a2, gr), ⟨hS.kp [(1, (Pv w.heap.size)), (4, Sn S w2.heap.size), (5, Sl wm8.heap.size S.lx.length S.lx.length), (6, .bool gr), (7, I6 (↑i + 1))], hEl106, by omega, hB108, hB109, hP.pass hpi h1⟩, by simp only; omega⟩
  ·
   replace hb37 := of_decide_eq_false hb37
   have hEl33 : Ext [w2.heap.size, wm8.heap.size] ws20 wl33 := hXl26.trans hXl33 (fun b hbM => by simp at hbM; exact hbM.elim (fun hbM => by rw [hbM]; exact .inl (by simp)) fun hbM => by rw [hbM]; exact .inl (by simp))
   have hie : i = S.ps.length := by omega
   rw [hie] at hP
   refine xt2 <| inBlock_normal ?_
   exact ⟨(a1, a2, gr), ⟨hS.kp [(1, (Pv w.heap.size)), (4, Sn S w2.heap.size), (5, Sl wm8.heap.size S.lx.length S.lx.length), (6, .bool gr)], hEl33, hgc, hgd, hP.snd, fun h => (hP.cl h).2⟩, (show 2 * falses a1 + gr.toNat < 2 * falses n1 + mo.toNat from by rw [hmo]; exact hP.more)⟩
 ·
  replace hb30 := hb30
  have hmo : mo = false := by simpa using hb30
  have hEl26 : Ext [] w wl26 := hE23.trans hXl26 (fun b hbM => by simp at hbM; exact hbM.elim (fun hbM => by rw [hbM]; exact .inr hE6.size) fun hbM => by rw [hbM]; exact .inr hE11.size)
  have hR := RcP.isRc hs1 (hc1 hmo)
  have hl1 : n1.length = S.ns.length := hR.l1
  have hl2 : n2.length = S.lx.length := hR.l2
  refine xt2 <| hK24 _ _ <| sq fun K113 hK113 => sdq 1 [.p] [] [(11, I6 0)] [] hS .nil fun a hS => wpIn_block ?_
  have hbl115 := (hb.trans0 hEl26)
  refine loop_ghost (fun (j : Nat) a' w' => St 112 [] [(1, (Pv w.heap.size)), (4, Sn S w2.heap.size), (5, Sl wm8.heap.size S.lx.length S.lx.length), (11, I6 j)] a' ∧ Ext [] wl26 w' ∧ j ≤ S.ns.length ∧ fF n1 0 = fF (n1.drop j) j) (fun (j : Nat) => S.ns.length - j) 0 ⟨hS.keepTo [1, 4, 5, 11] (by kernel_rfl), Ext.refl _ _, by omega, rfl⟩ ?_
  rintro j a wl115 ⟨hS, hXl115, hj, ha⟩
  have hB116 := hB27.ext hXl115 (by simp)
  have hB117 := hga.ext hXl115 (by simp)
  have hB118 := hgb.ext hXl115 (by simp)
  refine sq fun K119 hK119 => sdq 4 [.p, .p, .p, .p] [] [(82, .bool (decide ((↑j : Int) < ↑S.ns.length)))] [] hS .nil fun a hS => ?_
  refine cond_b hS rfl (fun hb121 => ?_) (fun hb121 => ?_)
  ·
   replace hb121 := of_decide_eq_true hb121
   refine wpIn_skip <| hK119 _ _ <| sq fun K122 hK122 => wpIn_block <| sq fun K123 hK123 => ?_
   rcases (show (n1[j]? = some true) ∨ (n1[j]? = some false) from bool_cases (by omega)) with h1 | h1
   ·
    rw [fF_step h1] at ha
    refine rgn 5 <| sd ww [.p, .p, .run ((Po w2.heap.size (0 + j * 1))), .ld (.bool true), .p] [Rv (Instr.indexAt 31 (Sn S w2.heap.size) (I6 j)) ((Po w2.heap.size (0 + j * 1))) wl115, wl115.cell? ⟨w2.heap.size, 0 + j * 1, none⟩ = some (.bool true)] [(89, .bool false)] [] 5 0 hS (.c (ixs 4 1 j) (.c ((hB117).cellAt _ (bls_at h1)) .nil)) fun a hS => sge hK123 ?_
    refine cond_f hS rfl ?_
    refine wpIn_skip <| inBlock_normal <| hK122 _ _ <| rgn 3 <| sd ww [.p, .as (I6 (↑j + 1)), .p] [_] [(11, I6 (↑j + 1))] [] 3 0 hS (as6 (↑j + 1)) fun a hS => seg_end ?_
    exact ⟨j + 1, ⟨hS.kp [(1, (Pv w.heap.size)), (4, Sn S w2.heap.size), (5, Sl wm8.heap.size S.lx.length S.lx.length), (11, I6 (↑j + 1))], hXl115, by omega, ha⟩, by omega⟩
   ·
    rw [fF_step h1] at ha
    have hEl115 : Ext [] w wl115 := hEl26.trans0 hXl115
    have hfj : fF n1 0 = j := ha
    have hre : rcE S (n1, n2) = (72, (j : Int)) := by unfold rcE; rw [hfj, if_pos (by omega)]
    refine rgn 5 <| sd ww [.p, .p, .run ((Po w2.heap.size (0 + j * 1))), .ld (.bool false), .p] [Rv (Instr.indexAt 31 (Sn S w2.heap.size) (I6 j)) ((Po w2.heap.size (0 + j * 1))) wl115, wl115.cell? ⟨w2.heap.size, 0 + j * 1, none⟩ = some (.bool false)] [(89, .bool true)] [] 5 0 hS (.c (ixs 4 1 j) (.c ((hB117).cellAt _ (bls_at h1)) .nil)) fun a hS => sge hK123 ?_
    refine cond_t hS rfl ?_
    refine sdq 3 [.p, .p, .p] [] [(2, I6 j), (3, I6 72)] [] hS .nil fun a hS => wpIn_ret <| inBlock_ret <| then_ret <| then_ret <| inBlock_ret <| then_ret ?_
    refine ret2 hS Tryd.results47 rfl rfl ?_
    exact ⟨(n1, n2), by rw [hre], hR, hEl115⟩
  ·
   replace hb121 := of_decide_eq_false hb121
   have hEl115 : Ext [] w wl115 := hEl26.trans0 hXl115
   rw [List.drop_eq_nil_of_le (by omega)] at ha
   have hfj : fF n1 0 = -1 := ha
   have hr0 : rcE S (n1, n2) = fR n2 S.lx 0 := by unfold rcE; rw [hfj, if_neg (by omega)]
   refine xt2 <| hK113 _ _ <| sq fun K125 hK125 => sdq 1 [.p] [] [(12, I6 0)] [] hS .nil fun a hS => wpIn_block ?_
   have hbl127 := (hb.trans0 hEl115)
   refine loop_ghost (fun (j : Nat) a' w' => St 112 [] [(1, (Pv w.heap.size)), (4, Sn S w2.heap.size), (5, Sl wm8.heap.size S.lx.length S.lx.length), (12, I6 j)] a' ∧ Ext [] wl115 w' ∧ j ≤ S.lx.length ∧ fR n2 S.lx 0 = fR (n2.drop j) (S.lx.drop j) j) (fun (j : Nat) => S.lx.length - j) 0 ⟨hS.keepTo [1, 4, 5, 12] (by kernel_rfl), Ext.refl _ _, by omega, rfl⟩ ?_
   rintro j a wl127 ⟨hS, hXl127, hj, ha⟩
   have hB128 := hB116.ext hXl127 (by simp)
   have hB130 := hB118.ext hXl127 (by simp)
   refine sq fun K131 hK131 => sdq 4 [.p, .p, .p, .p] [] [(94, .bool (decide ((↑j : Int) < ↑S.lx.length)))] [] hS .nil fun a hS => ?_
   refine cond_b hS rfl (fun hb133 => ?_) (fun hb133 => ?_)
   ·
    replace hb133 := of_decide_eq_true hb133
    obtain ⟨lr, hlr⟩ : ∃ lr, S.lx[j]? = some lr := gE
    refine wpIn_skip <| hK131 _ _ <| sq fun K134 hK134 => wpIn_block <| sq fun K135 hK135 => ?_
    rcases (show (n2[j]? = some true) ∨ (n2[j]? = some false) from bool_cases (by omega)) with h1 | h1
    ·
     refine rgn 14 <| sd ww [.p, .p, .run ((Po wm8.heap.size (0 + j * 1))), .ld (.bool true), .p, .p, .no, .no, .no, .no, .no, .no, .no, .p] [Rv (Instr.indexAt 31 (Sl wm8.heap.size S.lx.length S.lx.length) (I6 j)) ((Po wm8.heap.size (0 + j * 1))) wl127, wl127.cell? ⟨wm8.heap.size, 0 + j * 1, none⟩ = some (.bool true)] [(110, .bool false)] [] 14 0 hS (.c (ixs 4 1 j) (.c ((hB130).cellAt _ (bls_at h1)) .nil)) fun a hS => sge hK135 ?_
     refine cond_f hS rfl ?_
     refine wpIn_skip <| inBlock_normal <| hK134 _ _ <| rgn 3 <| sd ww [.p, .as (I6 (↑j + 1)), .p] [_] [(12, I6 (↑j + 1))] [] 3 0 hS (as6 (↑j + 1)) fun a hS => seg_end ?_
     exact ⟨j + 1, ⟨hS.kp [(1, (Pv w.heap.size)), (4, Sn S w2.heap.size), (5, Sl wm8.heap.size S.lx.length S.lx.length), (12, I6 (↑j + 1))], hXl127, by omega, by rw [ha, fR_step h1 hlr, if_neg (by simp)]⟩, by omega⟩
    ·
     refine rgn 14 <| sd ww [.p, .p, .run ((Po wm8.heap.size (0 + j * 1))), .ld (.bool false), .p, .p, .p, .ld (S.lv), .p, .run ((Po (bof S.lv) (oof S.lv + j * 8))), .p, .ld (.bool lr.tr), .p, .p] [Rv (Instr.indexAt 31 (Sl wm8.heap.size S.lx.length S.lx.length) (I6 j)) ((Po wm8.heap.size (0 + j * 1))) wl127, wl127.cell? ⟨wm8.heap.size, 0 + j * 1, none⟩ = some (.bool false), _, Rv (Instr.indexAt 22 (S.lv) (I6 j)) ((Po (bof S.lv) (oof S.lv + j * 8))) wl127, wl127.cell? ⟨bof S.lv, oof S.lv + j * 8 + 1, none⟩ = some (.bool lr.tr)] [(110, .bool (!lr.tr))] [] 14 0 hS (.c (ixs 4 1 j) (.c ((hB130).cellAt _ (bls_at h1)) (hB128.k 0 (.c (ixr 100 j hG.lex) (.c ((hG.lex.ext0 (hbl127.trans0 hXl127)).cellAt (j * 8 + 1) (by omega) (lcells_at S.lx j 1 lr hlr (by omega))) .nil))))) fun a hS => sge hK135 ?_
     refine cond_b hS rfl (fun hb136 => ?_) (fun hb136 => ?_)
     ·
      replace hb136 := hb136
      have hEl127 : Ext [] w wl127 := hEl115.trans0 hXl127
      have htr : lr.tr = false := by simpa using hb136
      have hre : rcE S (n1, n2) = (72, (j : Int)) := by rw [hr0, ha, fR_step h1 hlr, if_pos ⟨rfl, htr⟩]
      refine sdq 3 [.p, .p, .p] [] [(2, I6 j), (3, I6 72)] [] hS .nil fun a hS => wpIn_ret <| inBlock_ret <| then_ret <| then_ret <| inBlock_ret <| then_ret ?_
      refine ret2 hS Tryd.results47 rfl rfl ?_
      exact ⟨(n1, n2), by rw [hre], hR, hEl127⟩
     ·
      replace hb136 := hb136
      have htr : lr.tr = true := by simpa using hb136
      refine wpIn_skip <| inBlock_normal <| hK134 _ _ <| rgn 3 <| sd ww [.p, .as (I6 (↑j + 1)), .p] [_] [(12, I6 (↑j + 1))] [] 3 0 hS (as6 (↑j + 1)) fun a hS => seg_end ?_
      exact ⟨j + 1, ⟨hS.kp [(1, (Pv w.heap.size)), (4, Sn S w2.heap.size), (5, Sl wm8.heap.size S.lx.length S.lx.length), (12, I6 (↑j + 1))], hXl127, by omega, by rw [ha, fR_step h1 hlr, if_neg (by simp [htr])]⟩, by omega⟩
   ·
    replace hb133 := of_decide_eq_false hb133
    have hEl127 : Ext [] w wl127 := hEl115.trans0 hXl127
    have hdr : n2.drop j = [] := List.drop_eq_nil_of_le (by omega)
    rw [hdr] at ha
    have hre : rcE S (n1, n2) = (0, 0) := by rw [hr0, ha]; rfl
    refine xt2 <| hK125 _ _ <| sdq 2 [.p, .p] [] [(2, I6 0), (3, I6 0)] [] hS .nil fun a hS => wpIn_ret ?_
    refine ret2 hS Tryd.results47 rfl rfl ?_
    exact ⟨(n1, n2), by rw [hre], hR, hEl127⟩
end Go.Proofs.YtkkpghlcmcaoiaaDoor
