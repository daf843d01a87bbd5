import Derived.Test.YtkkpghlcmcaoiaaDoorRz
import Derived.Test.YtkkpghlcmcaoiaaDoorS23
import Derived.Test.YtkkpghlcmcaoiaaDoorS41
namespace Go.Proofs.YtkkpghlcmcaoiaaDoor
open Go.Vc Go.Gm
structure JnR (S : Sp) (R : List (List Nat)) (p : Pd) (bs : Option Addr) (n cq : Nat) (zs : List Nat) (ok : Bool) : Prop where
 is : zs = mkR S.nl (rF R) (row p.r)
 ok : ok = true ↔ zs.length ≤ 4096
 nil : zs = [] → bs = none ∧ n = 0 ∧ cq = 0
 max : zs.length ≤ 65536
theorem RzS.short {S : Sp} {mx : Nat} {x : RzX} (h : RzS S mx x) : ∀ u ∈ x.1, u.length ≤ mx := fun u hu => by
 obtain ⟨i, hi⟩ := List.getElem?_of_mem hu
 by_cases h0 : on x.2 i
 ·have := (h.snd i h0).2.1
  rw [rF_at hi] at this; exact this
 ·have := h.off i h0
  rw [rF_at hi] at this
  rw [this]; exact Nat.zero_le _
theorem Yr.extO {N g cp n b c m : Nat} {w w' : World} {L : List Rw} {R : List (List Nat)} {xs : List Value} (h : Yr N w g cp n L R) (hE : Ext [b] w w') (hB : OwnR w 4 1 b c m xs) : Yr N w' g cp n L R :=
 ⟨h.own.ext hE (by simpa using OwnR.neR h.own hB (by decide)), h.fam.ext hE (fun k x hx y hy hm => by
  simp at hm
  rw [hm] at hy
  exact OwnV.neR (h.fam.own k x hx) hB (by decide) b hy rfl), h.is, h.nil⟩
theorem Yr.rdAt {N g cp n : Nat} {w : World} {L : List Rw} {R : List (List Nat)} (h : Yr N w g cp n L R) {j : Nat} {u : List Nat} (hu : R[j]? = some u) : ∃ v, (L.map Rw.v)[0 + j * 1]? = some v ∧ RdV w 1 v u.length (ivs u) := by
 obtain ⟨x, hx, h1, h2⟩ := h.row hu
 refine ⟨x.v, by rw [Nat.zero_add, Nat.mul_one, List.getElem?_map, hx]; rfl, ?_⟩
 have := (h.fam.own j x hx).rd
 rw [h1, h2] at this
 exact this
set_option maxHeartbeats 1000000 in
theorem joined_r {w0 w : World} {S : Sp} (hG : SpOk w0 S) (hb : Ext [] w0 w) (hI : Ix S) {p : Pd} (hpm : p ∈ S.ps) (hr16 : p.r.length ≤ 16) {N g cp : Nat} {L : List Rw} {R : List (List Nat)} (hY : Yr N w g cp S.ns.length L R) (hRl : ∀ u ∈ R, u.length ≤ 4096) :
  Calls Tryd.prog 64 #[.agg S.ca, .agg #[I6 p.l, p.rv], Sl g S.ns.length cp] w fun e w' => ∃ bs n cq zs ok, e = .returned (.tuple #[.slice bs n cq, .bool ok]) ∧ RowN w.heap.size w' bs n cq zs ∧ JnR S R p bs n cq zs ok ∧ Ext [] w w' := by
 have hlmax := hG.lmax
 have hnmax := hG.nmax
 have hpmax := hG.pmax
 have hrm := hG.rmax p hpm
 have hyl := hY.len
 refine cbd 51 [(0, .agg S.ca), (1, .agg #[I6 p.l, p.rv]), (2, Sl g S.ns.length cp)] Tryd.func64 rfl fun a hS => ?_
 have hE0 : Ext [] w w := Ext.refl _ _
 refine sq fun K1 hK1 => rgn 4 <| ebx 3 S.ca 26 (some 3) hS fun a w2 hw3 hS => ?_
 have hB5 := OwnR.at' hw3 (hY.own.alloc _)
 have hB6 := Blk.nw hw3
 have hs7 := hE0.size
 have hE8 := hE0.al hw3
 refine ebx 2 #[I6 p.l, p.rv] 73 (some 4) hS fun a w9 hw10 hS => ?_
 have hB13 := OwnR.at' hw10 (hB5.alloc _)
 have hB14 := Blk.at' hw10 (hB6.alloc _)
 have hB15 := Blk.nw hw10
 have hs16 := hE8.size
 have hE17 := hE8.al hw10
 refine sd ww [.p, .p] [] [(6, .slice none 0 0), (7, .bool false)] [] 4 0 hS .nil fun a hS => sge hK1 <| sdq 1 [.p] [] [(8, .slice none 0 0)] [] hS .nil fun a hS => sq fun K19 hK19 => sdq 1 [.p] [] [(9, I6 0)] [] hS .nil fun a hS => wpIn_block ?_
 have hbl21 := (hb.trans0 hE17)
 refine loop_ghost (fun ((k, bs, n, cq, zs) : Nat × (Option Addr) × Nat × Nat × (List Nat)) a' w' => St 51 [] [(2, Sl g S.ns.length cp), (3, (Pv w.heap.size)), (4, (Pv w2.heap.size)), (9, I6 k), (8, .slice bs n cq)] a' ∧ Ext [] w9 w' ∧ k ≤ p.r.length ∧ RowN w9.heap.size w' bs n cq zs ∧ zs = mkR S.nl (rF R) ((row p.r).take k) ∧ zs.length ≤ k * 4096 ∧ (zs = [] → bs = none ∧ n = 0 ∧ cq = 0)) (fun ((k, bs, n, cq, zs) : Nat × (Option Addr) × Nat × Nat × (List Nat)) => p.r.length - k) (0, none, 0, 0, []) ⟨hS.keepTo [2, 3, 4, 9, 8] (by kernel_rfl), Ext.refl _ _, by omega, ⟨OwnV.nil _ _ _, fun x hx => by simp [ob] at hx⟩, rfl, by simp, fun _ => ⟨rfl, rfl, rfl⟩⟩ ?_
 rintro ⟨k, bs, n, cq, zs⟩ a wl21 ⟨hS, hXl21, hk, hR, hz, hzl, hz0⟩
 have hB22 := hB13.ext hXl21 (by simp)
 have hB23 := hB14.ext hXl21 (by simp)
 have hB24 := hB15.ext hXl21 (by simp)
 have hnz := hR.len
 refine sq fun K25 hK25 => sdq 5 [.p, .p, .ld (p.rv), .run (I6 p.r.length), .p] [_, Rv (Builtin.len_ #[71] 3 #[p.rv]) (I6 p.r.length) wl21] [(15, .bool (decide ((↑k : Int) < ↑p.r.length)))] [] hS (hB24.k 1 (.c (rlr 61 (hG.right p hpm)) .nil)) fun a hS => ?_
 refine cond_b hS rfl (fun hb27 => ?_) (fun hb27 => ?_)
 ·
  replace hb27 := of_decide_eq_true hb27
  obtain ⟨x, hxk⟩ : ∃ x, p.r[k]? = some x := gE
  have hxm := List.mem_of_getElem? hxk
  refine wpIn_skip <| hK25 _ _ <| sq fun K28 hK28 => wpIn_block <| sq fun K29 hK29 => ?_
  rcases (show (x.1 = 1 ∧ 0 ≤ x.2 ∧ x.2 < S.lx.length ∧ sm x = .t x.2.toNat) ∨ (x.1 = 2 ∧ x.2 = 0 ∧ sm x = .e) ∨ (x.1 = 3 ∧ 0 ≤ x.2 ∧ x.2 < S.ns.length ∧ sm x = .m x.2.toNat) from hI.kinds hpm hxm) with ⟨h1, h2, h3, h4⟩ | ⟨h1, h2, h3⟩ | ⟨h1, h2, h3, h4⟩
  ·
   have hy1 : sy1 S.nl R (sm x) = [x.2.toNat] := by rw [h4]; rfl
   refine rgn 7 <| sd ww [.p, .ld (p.rv), .p, .run ((Po (bof p.rv) (oof p.rv + k * 2))), .lds [I6 x.1, I6 x.2]] [_, Rv (Instr.indexAt 71 (p.rv) (I6 k)) ((Po (bof p.rv) (oof p.rv + k * 2))) wl21, wl21.cell? ⟨bof p.rv, oof p.rv + k * 2, none⟩ = some (I6 x.1), wl21.cell? ⟨bof p.rv, oof p.rv + k * 2 + 1, none⟩ = some (I6 x.2)] [(22, .agg #[I6 x.1, I6 x.2])] [] 5 2 hS (hB24.k 1 (.c (ixr 61 k (hG.right p hpm)) (.c (((hG.right p hpm).ext0 (hbl21.trans0 hXl21)).cellAt (k * 2 + 0) (by omega) (ycells_at p.r k 0 x hxk (by omega))) (.c (((hG.right p hpm).ext0 (hbl21.trans0 hXl21)).cellAt (k * 2 + 1) (by omega) (ycells_at p.r k 1 x hxk (by omega))) .nil)))) fun a hS => ebx 1 #[I6 0, I6 0] 61 (some 10) hS fun a w30 hw31 hS => ?_
   have hn35 : ∀ x ∈ ob (.slice bs n cq), wl21.heap.size ≠ x := fun x hx => Nat.ne_of_gt (hR.own.lie x hx)
   have hB39 := OwnV.at' hw31 (hR.own.alloc _)
   have hB40 := Blk.nw hw31
   have hs41 := hXl21.size
   have hE42 := hXl21.al hw31
   refine est 0 wl21.heap.size 0 [I6 x.1, I6 x.2] hS hB40 fun a w43 hw44 hS => ?_
   have hB48 := OwnV.at' hw44 (hB39.updNe hn35 _ _)
   have hB49 : Blk w43 wl21.heap.size 61 (#[I6 x.1, I6 x.2]) := hB40.up hw44
   have hE50 := hE42.ui hw44 hs41
   refine sge hK29 <| sdq 2 [.p, .ld (I6 x.1)] [_] [(24, I6 x.1)] [] hS (hB49.k 0 .nil) fun a hS => wpIn_block <| sdq 2 [.as (.bool true), .p] [Value.bool (((x.1 : Int) == 1)) = .bool true] [(32, .bool true)] [] hS (.c (as_eq_t (by omega)) .nil) fun a hS => ?_
   refine cond_t hS rfl ?_
   refine rgn 6 <| sd ww [.p, .p, .ld (I6 x.2)] [_] [(34, .slice bs n cq), (36, I6 x.2)] [] 3 3 hS (hB49.k 1 .nil) fun a hS => eff_new ww (r := 2) (cs := #[I6 x.2]) (T := 3) (v := Value.slice (some ⟨w43.heap.size, 0, none⟩) 1 1) (d := (some 37)) hS (by kernel_rfl) fun a w53 hw54 hS => ?_
   have hB63 := OwnV.at' hw54 (hB48.alloc _)
   have hB65 := Blk.nw hw54
   have hs66 := hE50.size
   have hE67 := hE50.al hw54
   refine eff_append2 ww (r := 1) (d := (some 38)) (t := 51) (ty := 51) (e := 3) (size := 1) (bytes := 8) (len := n) (b := w43.heap.size) (off := 0) (k := 1) (c := 1) (z := #[I6 0]) (v := Value.slice bs n cq) (xs := (ivs zs)) [I6 x.2] hS (by kernel_rfl) (by kernel_rfl) (by kernel_rfl) (by kernel_rfl) (by kernel_rfl) hB63 (by simp) (fun j u hu => by rw [Nat.zero_add]; exact hB65.cell j (by simpa using hu)) rfl (by omega) (by omega) (by omega) fun ga68 ca68 a wa68 hOa68 hEa68 hFa68 hS => ?_
   have hE74 : Ext [] w9 wa68 := hE67.trans hEa68 (fun b hb => .inr (hR.new b hb))
   refine sd ww [.p] [] [(8, Sl ga68 (n + 1) ca68)] [] 6 0 hS .nil fun a hS => seg_end <| inBlock_normal <| inBlock_normal <| hK28 _ _ <| rgn 3 <| sg ww [.p, .as (I6 (↑k + 1)), .p] [_] [(2, Sl g S.ns.length cp), (3, (Pv w.heap.size)), (4, (Pv w2.heap.size)), (9, I6 (↑k + 1)), (8, Sl ga68 (n + 1) ca68), (15, .bool (decide ((↑k : Int) < ↑p.r.length))), (10, (Pv wl21.heap.size)), (24, I6 x.1), (32, .bool true)] 3 0 hS (as6 (↑k + 1)) fun a hS => seg_end ?_
   exact ⟨(k + 1, (some ⟨ga68, 0, none⟩), (n + 1), ca68, (zs ++ sy1 S.nl R (sm x))), ⟨hS.kp [(2, Sl g S.ns.length cp), (3, (Pv w.heap.size)), (4, (Pv w2.heap.size)), (9, I6 (↑k + 1)), (8, Sl ga68 (n + 1) ca68)], hE74, by omega, (by rw [hy1]; exact hR.growI (Int.toNat_of_nonneg h2).symm hOa68 hE67.size hFa68), by rw [take_row_eq hxk, mkR_app, ← hz, mkR_one], by rw [hy1]; simp only [List.length_append, List.length_cons, List.length_nil]; omega, fun q => by rw [hy1] at q; simp at q⟩, by simp only; omega⟩
  ·
   have hy1 : sy1 S.nl R (sm x) = [S.nl] := by rw [h3]; rfl
   refine rgn 7 <| sd ww [.p, .ld (p.rv), .p, .run ((Po (bof p.rv) (oof p.rv + k * 2))), .lds [I6 x.1, I6 x.2]] [_, Rv (Instr.indexAt 71 (p.rv) (I6 k)) ((Po (bof p.rv) (oof p.rv + k * 2))) wl21, wl21.cell? ⟨bof p.rv, oof p.rv + k * 2, none⟩ = some (I6 x.1), wl21.cell? ⟨bof p.rv, oof p.rv + k * 2 + 1, none⟩ = some (I6 x.2)] [(22, .agg #[I6 x.1, I6 x.2])] [] 5 2 hS (hB24.k 1 (.c (ixr 61 k (hG.right p hpm)) (.c (((hG.right p hpm).ext0 (hbl21.trans0 hXl21)).cellAt (k * 2 + 0) (by omega) (ycells_at p.r k 0 x hxk (by omega))) (.c (((hG.right p hpm).ext0 (hbl21.trans0 hXl21)).cellAt (k * 2 + 1) (by omega) (ycells_at p.r k 1 x hxk (by omega))) .nil)))) fun a hS => ebx 1 #[I6 0, I6 0] 61 (some 10) hS fun a w75 hw76 hS => ?_
   have hn78 := Nat.ne_of_lt hB23.lt
   have hn80 : ∀ x ∈ ob (.slice bs n cq), wl21.heap.size ≠ x := fun x hx => Nat.ne_of_gt (hR.own.lie x hx)
   have hB82 := Blk.at' hw76 (hB23.alloc _)
   have hB84 := OwnV.at' hw76 (hR.own.alloc _)
   have hB85 := Blk.nw hw76
   have hs86 := hXl21.size
   have hE87 := hXl21.al hw76
   refine est 0 wl21.heap.size 0 [I6 x.1, I6 x.2] hS hB85 fun a w88 hw89 hS => ?_
   have hB91 := Blk.at' hw89 (hB82.updNe (Ne.symm hn78) _ _)
   have hB93 := OwnV.at' hw89 (hB84.updNe hn80 _ _)
   have hB94 : Blk w88 wl21.heap.size 61 (#[I6 x.1, I6 x.2]) := hB85.up hw89
   have hE95 := hE87.ui hw89 hs86
   refine sge hK29 <| sdq 2 [.p, .ld (I6 x.1)] [_] [(24, I6 x.1)] [] hS (hB94.k 0 .nil) fun a hS => wpIn_block <| sdq 2 [.as (.bool false), .p] [Value.bool (((x.1 : Int) == 1)) = .bool false] [(32, .bool false)] [] hS (.c (as_eq_f (by omega)) .nil) fun a hS => ?_
   refine cond_f hS rfl ?_
   refine sdq 2 [.as (.bool true), .p] [Value.bool (((x.1 : Int) == 2)) = .bool true] [(39, .bool true)] [] hS (.c (as_eq_t (by omega)) .nil) fun a hS => ?_
   refine cond_t hS rfl ?_
   refine rgn 7 <| sd ww [.p, .p, .ld (S.lv), .run (I6 S.lx.length)] [_, Rv (Builtin.len_ #[22] 3 #[S.lv]) (I6 S.lx.length) w88] [(41, .slice bs n cq), (44, I6 S.lx.length)] [] 4 3 hS (hB91.k 0 (.c (rlr 100 hG.lex) .nil)) fun a hS => eff_new ww (r := 2) (cs := #[I6 S.lx.length]) (T := 3) (v := Value.slice (some ⟨w88.heap.size, 0, none⟩) 1 1) (d := (some 45)) hS (by kernel_rfl) fun a w99 hw100 hS => ?_
   have hB109 := OwnV.at' hw100 (hB93.alloc _)
   have hB111 := Blk.nw hw100
   have hs112 := hE95.size
   have hE113 := hE95.al hw100
   refine eff_append2 ww (r := 1) (d := (some 46)) (t := 51) (ty := 51) (e := 3) (size := 1) (bytes := 8) (len := n) (b := w88.heap.size) (off := 0) (k := 1) (c := 1) (z := #[I6 0]) (v := Value.slice bs n cq) (xs := (ivs zs)) [I6 S.lx.length] hS (by kernel_rfl) (by kernel_rfl) (by kernel_rfl) (by kernel_rfl) (by kernel_rfl) hB109 (by simp) (fun j u hu => by rw [Nat.zero_add]; exact hB111.cell j (by simpa using hu)) rfl (by omega) (by omega) (by omega) fun ga114 ca114 a wa114 hOa114 hEa114 hFa114 hS => ?_
   have hE120 : Ext [] w9 wa114 := hE113.trans hEa114 (fun b hb => .inr (hR.new b hb))
   refine sg ww [.p] [] [(2, Sl g S.ns.length cp), (3, (Pv w.heap.size)), (4, (Pv w2.heap.size)), (9, I6 k), (8, Sl ga114 (n + 1) ca114), (15, .bool (decide ((↑k : Int) < ↑p.r.length))), (10, (Pv wl21.heap.size)), (24, I6 x.1), (32, .bool false), (39, .bool true)] 7 0 hS .nil fun a hS => seg_end <| inBlock_normal <| inBlock_normal <| hK28 _ _ <| rgn 3 <| sd ww [.p, .as (I6 (↑k + 1)), .p] [_] [(9, I6 (↑k + 1))] [] 3 0 hS (as6 (↑k + 1)) fun a hS => seg_end ?_
   exact ⟨(k + 1, (some ⟨ga114, 0, none⟩), (n + 1), ca114, (zs ++ sy1 S.nl R (sm x))), ⟨hS.kp [(2, Sl g S.ns.length cp), (3, (Pv w.heap.size)), (4, (Pv w2.heap.size)), (9, I6 (↑k + 1)), (8, Sl ga114 (n + 1) ca114)], hE120, by omega, (by rw [hy1]; exact hR.growI rfl hOa114 hE113.size hFa114), by rw [take_row_eq hxk, mkR_app, ← hz, mkR_one], by rw [hy1]; simp only [List.length_append, List.length_cons, List.length_nil]; omega, fun q => by rw [hy1] at q; simp at q⟩, by simp only; omega⟩
  ·
   refine rgn 7 <| sd ww [.p, .ld (p.rv), .p, .run ((Po (bof p.rv) (oof p.rv + k * 2))), .lds [I6 x.1, I6 x.2]] [_, Rv (Instr.indexAt 71 (p.rv) (I6 k)) ((Po (bof p.rv) (oof p.rv + k * 2))) wl21, wl21.cell? ⟨bof p.rv, oof p.rv + k * 2, none⟩ = some (I6 x.1), wl21.cell? ⟨bof p.rv, oof p.rv + k * 2 + 1, none⟩ = some (I6 x.2)] [(22, .agg #[I6 x.1, I6 x.2])] [] 5 2 hS (hB24.k 1 (.c (ixr 61 k (hG.right p hpm)) (.c (((hG.right p hpm).ext0 (hbl21.trans0 hXl21)).cellAt (k * 2 + 0) (by omega) (ycells_at p.r k 0 x hxk (by omega))) (.c (((hG.right p hpm).ext0 (hbl21.trans0 hXl21)).cellAt (k * 2 + 1) (by omega) (ycells_at p.r k 1 x hxk (by omega))) .nil)))) fun a hS => ebx 1 #[I6 0, I6 0] 61 (some 10) hS fun a w121 hw122 hS => ?_
   have hn123 := Nat.ne_of_lt hB22.lt
   have hn126 : ∀ x ∈ ob (.slice bs n cq), wl21.heap.size ≠ x := fun x hx => Nat.ne_of_gt (hR.own.lie x hx)
   have hB127 := OwnR.at' hw122 (hB22.alloc _)
   have hB130 := OwnV.at' hw122 (hR.own.alloc _)
   have hB131 := Blk.nw hw122
   have hs132 := hXl21.size
   have hE133 := hXl21.al hw122
   refine est 0 wl21.heap.size 0 [I6 x.1, I6 x.2] hS hB131 fun a w134 hw135 hS => ?_
   have hB136 := OwnR.at' hw135 (hB127.updNe (Ne.symm hn123) _ _)
   have hB139 := OwnV.at' hw135 (hB130.updNe hn126 _ _)
   have hB140 : Blk w134 wl21.heap.size 61 (#[I6 x.1, I6 x.2]) := hB131.up hw135
   have hE141 := hE133.ui hw135 hs132
   refine sge hK29 <| sdq 2 [.p, .ld (I6 x.1)] [_] [(24, I6 x.1)] [] hS (hB140.k 0 .nil) fun a hS => wpIn_block <| sdq 2 [.as (.bool false), .p] [Value.bool (((x.1 : Int) == 1)) = .bool false] [(32, .bool false)] [] hS (.c (as_eq_f (by omega)) .nil) fun a hS => ?_
   refine cond_f hS rfl ?_
   refine sdq 2 [.as (.bool false), .p] [Value.bool (((x.1 : Int) == 2)) = .bool false] [(39, .bool false)] [] hS (.c (as_eq_f (by omega)) .nil) fun a hS => ?_
   refine cond_f hS rfl ?_
   obtain ⟨u, hu⟩ : ∃ u, R[x.2.toNat]? = some u := gE
   have hru := rF_at hu
   have hul := hRl u (List.mem_of_getElem? hu)
   have hy1 : sy1 S.nl R (sm x) = u := by rw [h4]; exact hru
   have hYl := hY.ext0 (hE17.trans0 hE141)
   rcases (show (u = [] ∧ (L.map Rw.v)[0 + x.2.toNat * 1]? = some (Value.slice none 0 0)) ∨ (u ≠ [] ∧ ∃ gq cq, (L.map Rw.v)[0 + x.2.toNat * 1]? = some (Value.slice (some ⟨gq, 0, none⟩) u.length cq) ∧ OwnR w134 3 1 gq cq u.length (ivs u)) from hYl.at hu) with ⟨hu0, hc⟩ | ⟨hu0, gq, cq2, hc, hOq⟩
   ·
    refine rgn 8 <| sd ww [.p, .p, .p, .ld (I6 x.2), .run ((Po g (0 + x.2.toNat * 1))), .ld (.slice none 0 0)] [_, Rv (Instr.indexAt 37 (Sl g S.ns.length cp) (I6 x.2)) ((Po g (0 + x.2.toNat * 1))) w134, w134.cell? ⟨g, 0 + x.2.toNat * 1, none⟩ = some (.slice none 0 0)] [(25, .slice bs n cq), (30, .slice none 0 0)] [] 6 2 hS (hB140.k 1 (.c (ixz 51 1 x.2) (.c ((hB136).cellAt _ (hc)) .nil))) fun a hS => eff_run ww (r := 1) (s := vS (Builtin.append_ #[51, 51] 51 #[.slice bs n cq, .slice none 0 0])) (d := (some 31)) (v := .slice bs n cq) hS (by kernel_rfl) (vS_run (append_none (e := 3) (size := 1) (bytes := 8) (z := #[I6 0]) (by kernel_rfl) (by kernel_rfl) hB139)) fun a hS => sg ww [.p] [] [(2, Sl g S.ns.length cp), (3, (Pv w.heap.size)), (4, (Pv w2.heap.size)), (9, I6 k), (8, .slice bs n cq), (15, .bool (decide ((↑k : Int) < ↑p.r.length))), (10, (Pv wl21.heap.size)), (24, I6 x.1), (32, .bool false), (39, .bool false)] 8 0 hS .nil fun a hS => seg_end <| inBlock_normal <| inBlock_normal <| hK28 _ _ <| rgn 3 <| sd ww [.p, .as (I6 (↑k + 1)), .p] [_] [(9, I6 (↑k + 1))] [] 3 0 hS (as6 (↑k + 1)) fun a hS => seg_end ?_
    exact ⟨(k + 1, bs, n, cq, (zs ++ sy1 S.nl R (sm x))), ⟨hS.kp [(2, Sl g S.ns.length cp), (3, (Pv w.heap.size)), (4, (Pv w2.heap.size)), (9, I6 (↑k + 1)), (8, .slice bs n cq)], hE141, by omega, (by rw [hy1, hu0, List.append_nil]; exact ⟨hB139, hR.new⟩), by rw [take_row_eq hxk, mkR_app, ← hz, mkR_one], by simp only [hy1, hu0, List.append_nil]; exact Nat.le_trans hzl (Nat.mul_le_mul_right _ (Nat.le_succ k)), fun q => hz0 (by rw [hy1, hu0, List.append_nil] at q; exact q)⟩, by simp only; omega⟩
   ·
    refine rgn 8 <| sd ww [.p, .p, .p, .ld (I6 x.2), .run ((Po g (0 + x.2.toNat * 1))), .ld (Sl gq u.length cq2)] [_, Rv (Instr.indexAt 37 (Sl g S.ns.length cp) (I6 x.2)) ((Po g (0 + x.2.toNat * 1))) w134, w134.cell? ⟨g, 0 + x.2.toNat * 1, none⟩ = some (Sl gq u.length cq2)] [(25, .slice bs n cq), (30, Sl gq u.length cq2)] [] 6 2 hS (hB140.k 1 (.c (ixz 51 1 x.2) (.c ((hB136).cellAt _ (hc)) .nil))) fun a hS => eff_append_rd ww (r := 1) (d := (some 31)) (t := 51) (ty := 51) (e := 3) (size := 1) (bytes := 8) (len := n) (k := u.length) (z := #[I6 0]) (v := Value.slice bs n cq) (u := (Sl gq u.length cq2)) (xs := (ivs zs)) (news := (ivs u)) hS (by kernel_rfl) (by kernel_rfl) (by kernel_rfl) (by kernel_rfl) hB139 hOq.v.rd (ivs_one _) (by omega) (by omega) fun bs145 cp145 a wa145 hA145 hS => ?_
    have hEa145 : Ext (ob (Value.slice bs n cq)) w134 wa145 := hA145.ext
    have hO145 := hA145.own
    have hE150 : Ext [] w9 wa145 := hE141.trans hEa145 (fun b hb => .inr (hR.new b hb))
    have hnw145 : ∀ x ∈ ob (.slice bs145 (n + u.length) cp145), w9.heap.size ≤ x := fun x hx => by
     rcases hA145.fresh x (by simpa using hx) with h | h
     ·exact hR.new x h
     ·exact Nat.le_trans hE141.size h
    have hG151 : True := trivial
    refine sg ww [.p] [] [(2, Sl g S.ns.length cp), (3, (Pv w.heap.size)), (4, (Pv w2.heap.size)), (9, I6 k), (8, .slice bs145 (n + u.length) cp145), (15, .bool (decide ((↑k : Int) < ↑p.r.length))), (10, (Pv wl21.heap.size)), (24, I6 x.1), (32, .bool false), (39, .bool false)] 8 0 hS .nil fun a hS => seg_end <| inBlock_normal <| inBlock_normal <| hK28 _ _ <| rgn 3 <| sd ww [.p, .as (I6 (↑k + 1)), .p] [_] [(9, I6 (↑k + 1))] [] 3 0 hS (as6 (↑k + 1)) fun a hS => seg_end ?_
    exact ⟨(k + 1, bs145, (n + u.length), cp145, (zs ++ sy1 S.nl R (sm x))), ⟨hS.kp [(2, Sl g S.ns.length cp), (3, (Pv w.heap.size)), (4, (Pv w2.heap.size)), (9, I6 (↑k + 1)), (8, .slice bs145 (n + u.length) cp145)], hE150, by omega, (by rw [hy1]; exact ⟨by rw [ivs_app]; exact hO145, hnw145⟩), by rw [take_row_eq hxk, mkR_app, ← hz, mkR_one], by rw [hy1]; simp only [List.length_append, List.length_cons, List.length_nil]; omega, fun q => absurd (List.append_eq_nil_iff.1 q).2 (by rw [hy1]; exact hu0)⟩, by simp only; omega⟩
 ·
  replace hb27 := of_decide_eq_false hb27
  have hEl21 : Ext [] w wl21 := hE17.trans0 hXl21
  have hke : k = p.r.length := by omega
  rw [List.take_of_length_le (by rw [row_len]; omega)] at hz
  refine xt2 <| hK19 _ _ <| sdq 6 [.p, .p, .p, .p, .p, .p] [] [(6, .slice bs n cq), (7, .bool (decide ((↑n : Int) ≤ 4096)))] [] hS .nil fun a hS => wpIn_ret ?_
  refine ret2 hS Tryd.results64 rfl rfl ?_
  exact ⟨_, _, _, zs, _, rfl, ⟨hR.own, fun y hy => Nat.le_trans hE17.size (hR.new y hy)⟩, ⟨hz, by rw [decide_eq_true_eq]; omega, hz0, by omega⟩, hEl21⟩
set_option maxHeartbeats 2000000 in
theorem Yields_r {w0 w : World} {S : Sp} (hG : SpOk w0 S) (hb : Ext [] w0 w) (hI : Ix S) (h16 : ∀ p ∈ S.ps, p.r.length ≤ 16) :
  Calls Tryd.prog 18 #[.agg S.ca] w fun e w' => ∃ x : RzX, ZldR S x ∧ (((fH x.2 0).1 ≠ 0 ∧ e = .returned (.tuple #[.slice none 0 0, I6 (fH x.2 0).2, I6 6])) ∨ ((fH x.2 0).1 = 0 ∧ ∃ g L, e = .returned (.tuple #[Sn S g, I6 0, I6 0]) ∧ Lsts w.heap.size w' (some ⟨g, 0, none⟩) S.ns.length S.ns.length L x.1)) ∧ Ext [] w w' := by
 have hlmax := hG.lmax
 have hnmax := hG.nmax
 have hpmax := hG.pmax
 obtain ⟨mx, hmx⟩ : ∃ mx : Nat, mx = 4096 := ⟨_, rfl⟩
 refine cbd 85 [(0, .agg S.ca)] Tryd.func18 rfl fun a hS => ?_
 have hE0 : Ext [] w w := Ext.refl _ _
 refine sq fun K1 hK1 => rgn 4 <| ebx 3 S.ca 26 (some 1) hS fun a w2 hw3 hS => ?_
 have hB4 := Blk.nw hw3
 have hs5 := hE0.size
 have hE6 := hE0.al hw3
 refine sd ww [.p, .p, .p] [] [(2, .slice none 0 0), (3, I6 0), (4, I6 0)] [] 4 0 hS .nil fun a hS => sge hK1 <| sq fun K7 hK7 => ?_
 have hN0 : w.heap.size ≤ w2.heap.size := hE6.size
 have hbr8 : Ext [] w0 w2 := (hb.trans0 hE6)
 have hEr8 : Ext [] w2 w2 := Ext.refl _ _
 refine rgn 5 <| sd ww [.p, .ld (S.nv), .run (I6 S.ns.length)] [_, Rv (Builtin.len_ #[23] 3 #[S.nv]) (I6 S.ns.length) w2] [(15, I6 S.ns.length)] [] 3 2 hS (hB4.k 1 (.c (rlr 9 hG.names) .nil)) fun a hS => ?_
 obtain ⟨wm9, hrm9, hOm9, hEm9, hsm9⟩ := make_full (P := Tryd.prog) (w := w2) (T := 37) (E := 51) (size := 1) (bytes := 24) (z := #[.slice none 0 0]) (Value.slice none 0 0) (l := S.ns.length) (by kernel_rfl) (by kernel_rfl) (by rfl) (by omega) (by omega) (by omega)
 refine eff_run ww (r := 1) (s := vS (Instr.makeSlice 37 (I6 S.ns.length) (I6 S.ns.length))) (d := (some 16)) (v := Sn S w2.heap.size) hS (by kernel_rfl) hrm9 fun a hS => ?_
 have hB11 := hB4.ext hEm9 (by simp)
 have hE12 := hEr8.trans0 hEm9
 refine sd ww [.p] [] [(5, Sn S w2.heap.size)] [] 5 0 hS .nil fun a hS => sge hK7 <| sq fun K13 hK13 => rgn 5 <| sd ww [.p, .ld (S.nv), .run (I6 S.ns.length)] [_, Rv (Builtin.len_ #[23] 3 #[S.nv]) (I6 S.ns.length) wm9] [(19, I6 S.ns.length)] [] 3 2 hS (hB11.k 1 (.c (rlr 9 hG.names) .nil)) fun a hS => ?_
 obtain ⟨wm14, hrm14, hOm14, hEm14, hsm14⟩ := make_full (P := Tryd.prog) (w := wm9) (T := 31) (E := 4) (size := 1) (bytes := 1) (z := #[.bool false]) (Value.bool false) (l := S.ns.length) (by kernel_rfl) (by kernel_rfl) (by rfl) (by omega) (by omega) (by omega)
 refine eff_run ww (r := 1) (s := vS (Instr.makeSlice 31 (I6 S.ns.length) (I6 S.ns.length))) (d := (some 20)) (v := Sn S wm9.heap.size) hS (by kernel_rfl) hrm14 fun a hS => ?_
 have hn14_15 := Nat.ne_of_lt hOm9.lt
 have hB18 := hOm9.ext hEm14 (by simp)
 have hE19 := hE12.trans0 hEm14
 have hh0 := hOm14
 rw [Nat.mul_one, bls_rep] at hh0
 refine sd ww [.p] [] [(6, Sn S wm9.heap.size)] [] 5 0 hS .nil fun a hS => sge hK13 <| sq fun K20 hK20 => sdq 1 [.p] [] [(7, .bool true)] [] hS .nil fun a hS => wpIn_block ?_
 have hgn0 : w2.heap.size ≤ w2.heap.size := hEr8.size
 have hhn0 : w2.heap.size ≤ wm9.heap.size := hE12.size
 have hY0 := Yr.start (N := w2.heap.size) hB18
 refine loop_ghost (fun ((L1, R1, H1, mo) : (List Rw) × (List (List Nat)) × (List Bool) × Bool) a' w' => St 85 [] [(1, (Pv w.heap.size)), (5, Sn S w2.heap.size), (6, Sn S wm9.heap.size), (7, .bool mo)] a' ∧ Ext [] w2 w' ∧ Yr w2.heap.size w' w2.heap.size S.ns.length S.ns.length L1 R1 ∧ OwnR w' 4 1 wm9.heap.size S.ns.length S.ns.length (bls H1) ∧ RzS S mx (R1, H1) ∧ (mo = false → ∀ j, j < S.ps.length → RzC S mx j (R1, H1))) (fun ((L1, R1, H1, mo) : (List Rw) × (List (List Nat)) × (List Bool) × Bool) => 2 * rzMu S mx (R1, H1) + mo.toNat) ((List.replicate S.ns.length ⟨.slice none 0 0, 0, []⟩), (List.replicate S.ns.length []), (List.replicate S.ns.length false), true) ⟨hS.keepTo [1, 5, 6, 7] (by kernel_rfl), hE19, hY0, hh0, .start, fun h => by cases h⟩ ?_
 rintro ⟨L1, R1, H1, mo⟩ a wl22 ⟨hS, hXl22, hY1, hh1, hs1, hc1⟩
 have hsb23 := hB4.ext hXl22 (by simp)
 refine sq fun K24 hK24 => sdq 1 [.p] [] [(21, .bool mo)] [] hS .nil fun a hS => ?_
 refine cond_b hS rfl (fun hb26 => ?_) (fun hb26 => ?_)
 ·
  replace hb26 := hb26
  have hmo : mo = true := hb26
  refine wpIn_skip <| hK24 _ _ <| wpIn_block <| sdq 1 [.p] [] [(7, .bool false)] [] hS .nil fun a hS => sdq 1 [.p] [] [(8, I6 0)] [] hS .nil fun a hS => wpIn_block ?_
  refine loop_ghost (fun ((i, L2, R2, H2, gr) : Nat × (List Rw) × (List (List Nat)) × (List Bool) × Bool) a' w' => St 85 [] [(1, (Pv w.heap.size)), (5, Sn S w2.heap.size), (6, Sn S wm9.heap.size), (7, .bool gr), (8, I6 i)] a' ∧ Ext [] w2 w' ∧ Yr w2.heap.size w' w2.heap.size S.ns.length S.ns.length L2 R2 ∧ OwnR w' 4 1 wm9.heap.size S.ns.length S.ns.length (bls H2) ∧ i ≤ S.ps.length ∧ RzP S mx i (R1, H1) (R2, H2) gr) (fun ((i, L2, R2, H2, gr) : Nat × (List Rw) × (List (List Nat)) × (List Bool) × Bool) => S.ps.length - i) (0, L1, R1, H1, false) ⟨hS.keepTo [1, 5, 6, 7, 8] (by kernel_rfl), hXl22, hY1, hh1, by omega, .start hs1⟩ ?_
  rintro ⟨i, L2, R2, H2, gr⟩ a wl29 ⟨hS, hXl29, hY2, hh2, hi, hP⟩
  have hsb30 := hB4.ext hXl29 (by simp)
  refine sq fun K31 hK31 => sdq 5 [.p, .p, .ld (S.pv), .run (I6 S.ps.length), .p] [_, Rv (Builtin.len_ #[24] 3 #[S.pv]) (I6 S.ps.length) wl29] [(26, .bool (decide ((↑i : Int) < ↑S.ps.length)))] [] hS (hsb30.k 3 (.c (rlr 73 hG.prods) .nil)) fun a hS => ?_
  refine cond_b hS rfl (fun hb33 => ?_) (fun hb33 => ?_)
  ·
   replace hb33 := of_decide_eq_true hb33
   obtain ⟨p, hpi⟩ : ∃ p, S.ps[i]? = some p := gE
   have hpm := List.mem_of_getElem? hpi
   have hrm := hG.rmax p hpm
   have hpl := hI.pl hpm
   have hr16 := h16 p hpm
   have hRl : R2.length = S.ns.length := hP.snd.l1
   have hHl : H2.length = S.ns.length := hP.snd.l2
   refine wpIn_skip <| hK31 _ _ <| sq fun K34 hK34 => wpIn_block <| sq fun K35 hK35 => rgn 7 <| sd ww [.p, .ld (S.pv), .p, .run ((Po (bof S.pv) (oof S.pv + i * 2))), .lds [I6 p.l, p.rv]] [_, Rv (Instr.indexAt 24 (S.pv) (I6 i)) ((Po (bof S.pv) (oof S.pv + i * 2))) wl29, wl29.cell? ⟨bof S.pv, oof S.pv + i * 2, none⟩ = some (I6 p.l), wl29.cell? ⟨bof S.pv, oof S.pv + i * 2 + 1, none⟩ = some (p.rv)] [(33, .agg #[I6 p.l, p.rv])] [] 5 2 hS (hsb30.k 3 (.c (ixr 73 i hG.prods) (.c ((hG.prods.ext0 (hbr8.trans0 hXl29)).cellAt (i * 2 + 0) (by omega) (pcells_at S.ps i 0 p hpi (by omega))) (.c ((hG.prods.ext0 (hbr8.trans0 hXl29)).cellAt (i * 2 + 1) (by omega) (pcells_at S.ps i 1 p hpi (by omega))) .nil)))) fun a hS => ebx 1 #[I6 0, .slice none 0 0] 73 (some 9) hS fun a w36 hw37 hS => ?_
   have hn38 := Nat.ne_of_lt hsb30.lt
   have hn39 := Nat.ne_of_lt hY2.own.lt
   have hn40 := Nat.ne_of_lt hh2.lt
   have hB41 := Blk.at' hw37 (hsb30.alloc _)
   have hB42 := OwnR.at' hw37 (hY2.own.alloc _)
   have hB43 := OwnR.at' hw37 (hh2.alloc _)
   have hX44 : Ext [] wl29 w36 := by rw [hw37]; exact (Ext.refl _ _).alloc _
   have hG45 : Yr w2.heap.size w36 w2.heap.size S.ns.length S.ns.length L2 R2 := hY2.ext0 hX44
   have hB46 := Blk.nw hw37
   have hs47 := hXl29.size
   have hE48 := hXl29.al hw37
   refine est 0 wl29.heap.size 0 [I6 p.l, p.rv] hS hB46 fun a w49 hw50 hS => ?_
   have hB51 := Blk.at' hw50 (hB41.updNe (Ne.symm hn38) _ _)
   have hB52 := OwnR.at' hw50 (hB42.updNe (Ne.symm hn39) _ _)
   have hB53 := OwnR.at' hw50 (hB43.updNe (Ne.symm hn40) _ _)
   have hB54 : Blk w49 wl29.heap.size 73 (#[I6 p.l, p.rv]) := hB46.up hw50
   have hX55 : Ext [wl29.heap.size] w36 w49 := by rw [hw50]; exact (Ext.refl _ _).updIn (.inl (by simp)) _ _
   have hG56 : Yr w2.heap.size w49 w2.heap.size S.ns.length S.ns.length L2 R2 := hG45.extT hX55 hB46 (by decide) (by decide)
   have hE57 := hE48.ui hw50 hs47
   refine sge hK35 <| sq fun K58 hK58 => sq fun K59 hK59 => rgn 4 <| sd ww [.lds [I6 p.l, p.rv], .p] [_, _] [(34, .agg #[I6 p.l, p.rv]), (35, Sn S wm9.heap.size)] [] 2 2 hS (hB54.k 0 (hB54.k 1 .nil)) fun a hS => ecl 1 (some 36) hS Tryd.call63 #[.agg #[I6 p.l, p.rv], Sn S wm9.heap.size] (all_r hG (hbr8.trans0 hE57) hI hpm hB53) ?_
   rintro _ wc60 ⟨rfl, hEc60⟩
   refine ⟨_, rfl, fun a hS => ?_⟩
   have hB61 := hB51.ext hEc60 (by simp)
   have hB62 := hB52.ext hEc60 (by simp)
   have hB63 := hB53.ext hEc60 (by simp)
   have hB64 := hB54.ext hEc60 (by simp)
   have hG65 : Yr w2.heap.size wc60 w2.heap.size S.ns.length S.ns.length L2 R2 := hG56.ext0 hEc60
   have hE66 := hE57.trans0 hEc60
   refine sd ww [.p] [] [(37, .bool (!(okA true H2 (row p.r))))] [] 4 0 hS .nil fun a hS => sge hK59 ?_
   refine cond_b hS rfl (fun hb67 => ?_) (fun hb67 => ?_)
   ·
    replace hb67 := hb67
    refine wpIn_exit <| then_exit <| inBlock_hit <| hK34 _ _ <| rgn 3 <| sd ww [.p, .as (I6 (↑i + 1)), .p] [_] [(8, I6 (↑i + 1))] [] 3 0 hS (as6 (↑i + 1)) fun a hS => seg_end ?_
    exact ⟨(i + 1, L2, R2, H2, gr), ⟨hS.kp [(1, (Pv w.heap.size)), (5, Sn S w2.heap.size), (6, Sn S wm9.heap.size), (7, .bool gr), (8, I6 (↑i + 1))], hE66, hG65, hB63, by omega, hP.skip (.of hpi (.inl fun q => by rw [okA_iff.2 ⟨q, .inl rfl⟩] at hb67; cases hb67))⟩, by simp only; omega⟩
   ·
    replace hb67 := hb67
    have hoa := (okA_iff.1 (show okA true H2 (row p.r) = true by simpa using hb67)).1
    refine wpIn_skip <| hK58 _ _ <| sq fun K68 hK68 => rgn 9 <| sd ww [.lds [S.lv, S.nv, I6 S.st, S.pv], .lds [I6 p.l, p.rv], .p] [_, _, _, _, _, _] [(39, .agg S.ca), (40, .agg #[I6 p.l, p.rv]), (41, Sn S w2.heap.size)] [] 3 6 hS (hB61.k 0 (hB61.k 1 (hB61.k 2 (hB61.k 3 (hB64.k 0 (hB64.k 1 .nil)))))) fun a hS => ecl 5 (some 42) hS Tryd.call64 #[.agg S.ca, .agg #[I6 p.l, p.rv], Sn S w2.heap.size] (joined_r hG (hbr8.trans0 hE66) hI hpm hr16 hG65 (fun u hu => by have := hP.snd.short u hu; omega)) ?_
    rintro _ wc69 ⟨bs69, n69, cq69, zs69, ok69, rfl, hRn69, hJ69, hEc69⟩
    refine ⟨_, rfl, fun a hS => ?_⟩
    have hB71 := hB62.ext hEc69 (by simp)
    have hB72 := hB63.ext hEc69 (by simp)
    have hB73 := hB64.ext hEc69 (by simp)
    have hG74 : Yr w2.heap.size wc69 w2.heap.size S.ns.length S.ns.length L2 R2 := hG65.ext0 hEc69
    have hE75 := hE66.trans0 hEc69
    refine sd ww [.p, .p, .p, .p, .p] [] [(10, .slice bs69 n69 cq69), (11, .bool ok69)] [] 9 0 hS .nil fun a hS => sge hK68 <| sq fun K76 hK76 => ?_
    have hz := hJ69.is
    have hzm := hJ69.max
    have hnz := hRn69.len
    rcases (show (ok69 = false) ∨ (ok69 = true ∧ H2[p.l.toNat]? = some false) ∨ (ok69 = true ∧ H2[p.l.toNat]? = some true) from by
     rcases Bool.eq_false_or_eq_true ok69 with q | q
     ·exact .inr ((bool_cases (bs := H2) (j := p.l.toNat) (by omega)).elim (fun h => .inr ⟨q, h⟩) fun h => .inl ⟨q, h⟩)
     ·exact .inl q) with ho | ⟨ho, hb5⟩ | ⟨ho, hb5⟩
    ·
     refine rgn 18 <| sg ww [.as (.bool false), .p, .no, .no, .no, .no, .no, .no, .no, .no, .no, .no, .no, .no, .no, .no, .no, .p] [Value.bool ok69 = .bool false] [(1, (Pv w.heap.size)), (5, Sn S w2.heap.size), (6, Sn S wm9.heap.size), (7, .bool gr), (8, I6 i), (26, .bool (decide ((↑i : Int) < ↑S.ps.length))), (9, (Pv wl29.heap.size)), (37, .bool (!(okA true H2 (row p.r)))), (10, .slice bs69 n69 cq69), (11, .bool ok69), (62, .bool false)] 18 0 hS (.c (by rw [ho]) .nil) fun a hS => sge hK76 ?_
     refine cond_f hS rfl ?_
     refine wpIn_skip <| inBlock_normal <| hK34 _ _ <| rgn 3 <| sd ww [.p, .as (I6 (↑i + 1)), .p] [_] [(8, I6 (↑i + 1))] [] 3 0 hS (as6 (↑i + 1)) fun a hS => seg_end ?_
     exact ⟨(i + 1, L2, R2, H2, gr), ⟨hS.kp [(1, (Pv w.heap.size)), (5, Sn S w2.heap.size), (6, Sn S wm9.heap.size), (7, .bool gr), (8, I6 (↑i + 1))], hE75, hG74, hB72, by omega, hP.skip (.of hpi (.inr (.inl fun q => by
      have q : (mkR S.nl (rF R2) (row p.r)).length ≤ mx := q
      rw [← hz] at q
      have := hJ69.ok.2 (by omega)
      rw [ho] at this; cases this)))⟩, by simp only; omega⟩
    ·
     refine rgn 18 <| sg ww [.as (.bool true), .p, .p, .p, .ld (I6 p.l), .run ((Po wm9.heap.size (0 + p.l.toNat * 1))), .ld (.bool false), .p, .p, .no, .no, .no, .no, .no, .no, .no, .p, .p] [Value.bool ok69 = .bool true, _, Rv (Instr.indexAt 31 (Sn S wm9.heap.size) (I6 p.l)) ((Po wm9.heap.size (0 + p.l.toNat * 1))) wc69, wc69.cell? ⟨wm9.heap.size, 0 + p.l.toNat * 1, none⟩ = some (.bool false)] [(1, (Pv w.heap.size)), (5, Sn S w2.heap.size), (6, Sn S wm9.heap.size), (7, .bool gr), (8, I6 i), (26, .bool (decide ((↑i : Int) < ↑S.ps.length))), (9, (Pv wl29.heap.size)), (37, .bool (!(okA true H2 (row p.r)))), (10, .slice bs69 n69 cq69), (11, .bool ok69), (62, .bool true)] 18 0 hS (.c (by rw [ho]) (hB73.k 0 (.c (ixz 4 1 p.l) (.c ((hB72).cellAt _ (bls_at hb5)) .nil)))) fun a hS => sge hK76 ?_
     refine cond_t hS rfl ?_
     refine sq fun K77 hK77 => rgn 6 <| sd ww [.p, .p, .ld (I6 p.l), .p, .run ((Po w2.heap.size (0 + p.l.toNat * 1)))] [_, Rv (Instr.indexAt 37 (Sn S w2.heap.size) (I6 p.l)) ((Po w2.heap.size (0 + p.l.toNat * 1))) wc69] [(66, .slice bs69 n69 cq69), (67, (Po w2.heap.size (0 + p.l.toNat * 1)))] [] 5 1 hS (hB73.k 0 (.c (ixz 51 1 p.l) .nil)) fun a hS => eff_store_own ww (r := 0) (b := w2.heap.size) (off := 0 + p.l.toNat * 1) (u := Value.slice bs69 n69 cq69) (xs := (L2.map Rw.v)) hS (by kernel_rfl) hB71 (by omega) fun a ws78 hOs78 hEs78 hsz78 hS => ?_
     have hB80 := hB72.ext hEs78 (by simpa using (Ne.symm hn14_15))
     have hB81 := hB73.ext hEs78 (by simpa using (Ne.symm hn39))
     have hE82 : Ext [] w2 ws78 := hE75.trans hEs78 (fun b hb => by simp at hb; subst hb; exact .inr hgn0)
     refine sge hK77 <| sq fun K83 hK83 => ?_
     have hYn := Yr.put (j := p.l.toNat) hG74 hOs78 hEs78 hRn69 hE66.size hJ69.nil (fun k x hx q hq => Fam.lie (Yr.fam hG65) hx q hq)
     have hbm : (bls H2).length = S.ns.length := by rw [bls_len]; exact hHl
     refine rgn 5 <| sd ww [.p, .p, .ld (I6 p.l), .run ((Po wm9.heap.size (0 + p.l.toNat * 1)))] [_, Rv (Instr.indexAt 31 (Sn S wm9.heap.size) (I6 p.l)) ((Po wm9.heap.size (0 + p.l.toNat * 1))) ws78] [(71, (Po wm9.heap.size (0 + p.l.toNat * 1)))] [] 4 1 hS (hB81.k 0 (.c (ixz 4 1 p.l) .nil)) fun a hS => eff_store_own ww (r := 0) (b := wm9.heap.size) (off := 0 + p.l.toNat * 1) (u := Value.bool true) (xs := (bls H2)) hS (by kernel_rfl) hB80 (by omega) fun a ws84 hOs84 hEs84 hsz84 hS => ?_
     have hE88 : Ext [] w2 ws84 := hE82.trans hEs84 (fun b hb => by simp at hb; subst hb; exact .inr hhn0)
     have hG89 : Yr w2.heap.size ws84 w2.heap.size S.ns.length S.ns.length (L2.set p.l.toNat ⟨.slice bs69 n69 cq69, n69, ivs zs69⟩) (R2.set p.l.toNat zs69) := hYn.extO hEs84 hB80
     refine sge hK83 <| rgn 1 <| sd ww [.p] [] [(7, .bool true)] [] 1 0 hS .nil fun a hS => seg_end <| inBlock_normal <| hK34 _ _ <| rgn 3 <| sd ww [.p, .as (I6 (↑i + 1)), .p] [_] [(8, I6 (↑i + 1))] [] 3 0 hS (as6 (↑i + 1)) fun a hS => seg_end ?_
     have hgs := hOs84
     rw [bls_set] at hgs
     have hzl : zs69.length ≤ mx := by have := hJ69.ok.1 ho; omega
     have hS2 := hP.snd.set hI hpm hoa hz hzl
     have hle : ∀ t ∈ zs69, t ≤ S.nl := by
      rw [hz]; exact rz_le hP.snd (row_small hI hpm) hoa
     exact ⟨(i + 1, _, (R2.set p.l.toNat zs69), (H2.set p.l.toNat true), true), ⟨hS.kp [(1, (Pv w.heap.size)), (5, Sn S w2.heap.size), (6, Sn S wm9.heap.size), (7, .bool true), (8, I6 (↑i + 1))], hE88, hG89, hgs, by omega, hP.set hS2 (rzMu_set (x := (R2, H2)) (by show p.l.toNat < R2.length; omega) (by show p.l.toNat < H2.length; omega) hzl hle (.inl (off_of hb5)))⟩, by simp only; omega⟩
    ·
     obtain ⟨u, hu⟩ : ∃ u, R2[p.l.toNat]? = some u := gE
     have hru := rF_at hu
     obtain ⟨vq, hc, hrq⟩ := Yr.rdAt hG74 hu
     refine rgn 18 <| sg ww [.as (.bool true), .p, .p, .p, .ld (I6 p.l), .run ((Po wm9.heap.size (0 + p.l.toNat * 1))), .ld (.bool true), .p, .p, .p, .p, .p, .ld (I6 p.l), .run ((Po w2.heap.size (0 + p.l.toNat * 1))), .ld (vq)] [Value.bool ok69 = .bool true, _, Rv (Instr.indexAt 31 (Sn S wm9.heap.size) (I6 p.l)) ((Po wm9.heap.size (0 + p.l.toNat * 1))) wc69, wc69.cell? ⟨wm9.heap.size, 0 + p.l.toNat * 1, none⟩ = some (.bool true), _, Rv (Instr.indexAt 37 (Sn S w2.heap.size) (I6 p.l)) ((Po w2.heap.size (0 + p.l.toNat * 1))) wc69, wc69.cell? ⟨w2.heap.size, 0 + p.l.toNat * 1, none⟩ = some (vq)] [(1, (Pv w.heap.size)), (5, Sn S w2.heap.size), (6, Sn S wm9.heap.size), (7, .bool gr), (8, I6 i), (26, .bool (decide ((↑i : Int) < ↑S.ps.length))), (9, (Pv wl29.heap.size)), (37, .bool (!(okA true H2 (row p.r)))), (10, .slice bs69 n69 cq69), (11, .bool ok69), (46, .bool true), (53, .bool false), (54, .slice bs69 n69 cq69), (59, vq)] 15 3 hS (.c (by rw [ho]) (hB73.k 0 (.c (ixz 4 1 p.l) (.c ((hB72).cellAt _ (bls_at hb5)) (hB73.k 0 (.c (ixz 51 1 p.l) (.c ((hB71).cellAt _ (hc)) .nil))))))) fun a hS => ecl 2 (some 60) hS Tryd.call30 #[.slice bs69 n69 cq69, vq] (Less_any hRn69.own.rd hrq (by omega)) ?_
     rintro _ wc90 ⟨rfl, hEc90⟩
     refine ⟨_, rfl, fun a hS => ?_⟩
     have hB92 := hB71.ext hEc90 (by simp)
     have hB93 := hB72.ext hEc90 (by simp)
     have hB94 := hB73.ext hEc90 (by simp)
     have hG95 : Yr w2.heap.size wc90 w2.heap.size S.ns.length S.ns.length L2 R2 := hG74.ext0 hEc90
     have hE96 := hE75.trans0 hEc90
     refine sd ww [.p, .p] [] [(62, .bool (decide (less zs69 u)))] [] 18 0 hS .nil fun a hS => sge hK76 ?_
     refine cond_b hS rfl (fun hb97 => ?_) (fun hb97 => ?_)
     ·
      replace hb97 := hb97
      have hlz : less zs69 u := by simpa using hb97
      have hRz : RowN wc60.heap.size wc90 bs69 n69 cq69 zs69 := ⟨hRn69.own.ext0' hEc90, hRn69.new⟩
      refine sq fun K98 hK98 => rgn 6 <| sd ww [.p, .p, .ld (I6 p.l), .p, .run ((Po w2.heap.size (0 + p.l.toNat * 1)))] [_, Rv (Instr.indexAt 37 (Sn S w2.heap.size) (I6 p.l)) ((Po w2.heap.size (0 + p.l.toNat * 1))) wc90] [(66, .slice bs69 n69 cq69), (67, (Po w2.heap.size (0 + p.l.toNat * 1)))] [] 5 1 hS (hB94.k 0 (.c (ixz 51 1 p.l) .nil)) fun a hS => eff_store_own ww (r := 0) (b := w2.heap.size) (off := 0 + p.l.toNat * 1) (u := Value.slice bs69 n69 cq69) (xs := (L2.map Rw.v)) hS (by kernel_rfl) hB92 (by omega) fun a ws99 hOs99 hEs99 hsz99 hS => ?_
      have hB101 := hB93.ext hEs99 (by simpa using (Ne.symm hn14_15))
      have hB102 := hB94.ext hEs99 (by simpa using (Ne.symm hn39))
      have hE103 : Ext [] w2 ws99 := hE96.trans hEs99 (fun b hb => by simp at hb; subst hb; exact .inr hgn0)
      refine sge hK98 <| sq fun K104 hK104 => ?_
      have hYn := Yr.put (j := p.l.toNat) hG95 hOs99 hEs99 hRz hE66.size hJ69.nil (fun k x hx q hq => Fam.lie (Yr.fam hG65) hx q hq)
      have hbm : (bls H2).length = S.ns.length := by rw [bls_len]; exact hHl
      refine rgn 5 <| sd ww [.p, .p, .ld (I6 p.l), .run ((Po wm9.heap.size (0 + p.l.toNat * 1)))] [_, Rv (Instr.indexAt 31 (Sn S wm9.heap.size) (I6 p.l)) ((Po wm9.heap.size (0 + p.l.toNat * 1))) ws99] [(71, (Po wm9.heap.size (0 + p.l.toNat * 1)))] [] 4 1 hS (hB102.k 0 (.c (ixz 4 1 p.l) .nil)) fun a hS => eff_store_own ww (r := 0) (b := wm9.heap.size) (off := 0 + p.l.toNat * 1) (u := Value.bool true) (xs := (bls H2)) hS (by kernel_rfl) hB101 (by omega) fun a ws105 hOs105 hEs105 hsz105 hS => ?_
      have hE109 : Ext [] w2 ws105 := hE103.trans hEs105 (fun b hb => by simp at hb; subst hb; exact .inr hhn0)
      have hG110 : Yr w2.heap.size ws105 w2.heap.size S.ns.length S.ns.length (L2.set p.l.toNat ⟨.slice bs69 n69 cq69, n69, ivs zs69⟩) (R2.set p.l.toNat zs69) := hYn.extO hEs105 hB101
      refine sge hK104 <| rgn 1 <| sd ww [.p] [] [(7, .bool true)] [] 1 0 hS .nil fun a hS => seg_end <| inBlock_normal <| hK34 _ _ <| rgn 3 <| sd ww [.p, .as (I6 (↑i + 1)), .p] [_] [(8, I6 (↑i + 1))] [] 3 0 hS (as6 (↑i + 1)) fun a hS => seg_end ?_
      have hgs := hOs105
      rw [bls_set] at hgs
      have hzl : zs69.length ≤ mx := by have := hJ69.ok.1 ho; omega
      have hS2 := hP.snd.set hI hpm hoa hz hzl
      have hle : ∀ t ∈ zs69, t ≤ S.nl := by
       rw [hz]; exact rz_le hP.snd (row_small hI hpm) hoa
      exact ⟨(i + 1, _, (R2.set p.l.toNat zs69), (H2.set p.l.toNat true), true), ⟨hS.kp [(1, (Pv w.heap.size)), (5, Sn S w2.heap.size), (6, Sn S wm9.heap.size), (7, .bool true), (8, I6 (↑i + 1))], hE109, hG110, hgs, by omega, hP.set hS2 (rzMu_set (x := (R2, H2)) (by show p.l.toNat < R2.length; omega) (by show p.l.toNat < H2.length; omega) hzl hle (.inr (by show less zs69 (rF R2 p.l.toNat); rw [hru]; exact hlz)))⟩, by simp only; omega⟩
     ·
      replace hb97 := hb97
      have hlz : ¬less zs69 u := by simpa using hb97
      refine wpIn_skip <| inBlock_normal <| hK34 _ _ <| rgn 3 <| sd ww [.p, .as (I6 (↑i + 1)), .p] [_] [(8, I6 (↑i + 1))] [] 3 0 hS (as6 (↑i + 1)) fun a hS => seg_end ?_
      exact ⟨(i + 1, L2, R2, H2, gr), ⟨hS.kp [(1, (Pv w.heap.size)), (5, Sn S w2.heap.size), (6, Sn S wm9.heap.size), (7, .bool gr), (8, I6 (↑i + 1))], hE96, hG95, hB93, by omega, hP.skip (.of hpi (.inr (.inr ⟨hb5, by show ¬less (mkR S.nl (rF R2) (row p.r)) (rF R2 p.l.toNat); rw [hru, ← hz]; exact hlz⟩)))⟩, by simp only; omega⟩
  ·
   replace hb33 := of_decide_eq_false hb33
   have hie : i = S.ps.length := by omega
   rw [hie] at hP
   refine xt2 <| inBlock_normal ?_
   exact ⟨(L2, R2, H2, gr), ⟨hS.kp [(1, (Pv w.heap.size)), (5, Sn S w2.heap.size), (6, Sn S wm9.heap.size), (7, .bool gr)], hXl29, hY2, hh2, hP.snd, fun h => (hP.cl h).2⟩, (show 2 * rzMu S mx (R2, H2) + gr.toNat < 2 * rzMu S mx (R1, H1) + mo.toNat from by rw [hmo]; exact hP.more)⟩
 ·
  replace hb26 := hb26
  have hmo : mo = false := by simpa using hb26
  have hZ : ZldR S (R1, H1) := by
   subst hmx
   exact ⟨hs1, hs1.isZ (hc1 hmo)⟩
  have hHl : H1.length = S.ns.length := hs1.l2
  refine xt2 <| hK20 _ _ <| sq fun K111 hK111 => sdq 1 [.p] [] [(12, I6 0)] [] hS .nil fun a hS => wpIn_block ?_
  have hbl113 : Ext [] w0 wl22 := (hbr8.trans0 hXl22)
  refine loop_ghost (fun (i : Nat) a' w' => St 85 [] [(1, (Pv w.heap.size)), (5, Sn S w2.heap.size), (6, Sn S wm9.heap.size), (12, I6 i)] a' ∧ Ext [] wl22 w' ∧ i ≤ S.ns.length ∧ fH H1 0 = fH (H1.drop i) i) (fun (i : Nat) => S.ns.length - i) 0 ⟨hS.keepTo [1, 5, 6, 12] (by kernel_rfl), Ext.refl _ _, by omega, rfl⟩ ?_
  rintro i a wl113 ⟨hS, hXl113, hi, ha⟩
  have hB116 := hh1.ext hXl113 (by simp)
  have hG117 : Yr w2.heap.size wl113 w2.heap.size S.ns.length S.ns.length L1 R1 := hY1.ext0 hXl113
  refine sq fun K118 hK118 => sdq 4 [.p, .p, .p, .p] [] [(75, .bool (decide ((↑i : Int) < ↑S.ns.length)))] [] hS .nil fun a hS => ?_
  refine cond_b hS rfl (fun hb120 => ?_) (fun hb120 => ?_)
  ·
   replace hb120 := of_decide_eq_true hb120
   refine wpIn_skip <| hK118 _ _ <| sq fun K121 hK121 => wpIn_block <| sq fun K122 hK122 => ?_
   rcases (show (H1[i]? = some true) ∨ (H1[i]? = some false) from bool_cases (by omega)) with h5 | h5
   ·
    have hst := ha
    rw [fH_step h5] at hst
    refine rgn 5 <| sd ww [.p, .p, .run ((Po wm9.heap.size (0 + i * 1))), .ld (.bool true), .p] [Rv (Instr.indexAt 31 (Sn S wm9.heap.size) (I6 i)) ((Po wm9.heap.size (0 + i * 1))) wl113, wl113.cell? ⟨wm9.heap.size, 0 + i * 1, none⟩ = some (.bool true)] [(82, .bool false)] [] 5 0 hS (.c (ixs 4 1 i) (.c ((hB116).cellAt _ (bls_at h5)) .nil)) fun a hS => sge hK122 ?_
    refine cond_f hS rfl ?_
    refine wpIn_skip <| inBlock_normal <| hK121 _ _ <| rgn 3 <| sd ww [.p, .as (I6 (↑i + 1)), .p] [_] [(12, I6 (↑i + 1))] [] 3 0 hS (as6 (↑i + 1)) fun a hS => seg_end ?_
    exact ⟨i + 1, ⟨hS.kp [(1, (Pv w.heap.size)), (5, Sn S w2.heap.size), (6, Sn S wm9.heap.size), (12, I6 (↑i + 1))], hXl113, by omega, hst.trans (by simp)⟩, by omega⟩
   ·
    have hst := ha
    rw [fH_step h5] at hst
    have hEl113 : Ext [] w2 wl113 := hXl22.trans0 hXl113
    have hfe : fH H1 0 = (6, (i : Int)) := hst.trans (by simp)
    refine rgn 5 <| sd ww [.p, .p, .run ((Po wm9.heap.size (0 + i * 1))), .ld (.bool false), .p] [Rv (Instr.indexAt 31 (Sn S wm9.heap.size) (I6 i)) ((Po wm9.heap.size (0 + i * 1))) wl113, wl113.cell? ⟨wm9.heap.size, 0 + i * 1, none⟩ = some (.bool false)] [(82, .bool true)] [] 5 0 hS (.c (ixs 4 1 i) (.c ((hB116).cellAt _ (bls_at h5)) .nil)) fun a hS => sge hK122 ?_
    refine cond_t hS rfl ?_
    refine sdq 4 [.p, .p, .p, .p] [] [(2, .slice none 0 0), (3, I6 i), (4, I6 6)] [] hS .nil fun a hS => wpIn_ret <| inBlock_ret <| then_ret <| then_ret <| inBlock_ret <| then_ret ?_
    refine ret3 hS Tryd.results18 rfl rfl rfl ?_
    exact ⟨(R1, H1), hZ, .inl ⟨by show (fH H1 0).1 ≠ 0; rw [hfe]; simp, by show _ = Ending.returned (.tuple #[.slice none 0 0, I6 (fH H1 0).2, I6 6]); rw [hfe]⟩, (hE6.trans0 hEl113)⟩
  ·
   replace hb120 := of_decide_eq_false hb120
   have hEl113 : Ext [] w2 wl113 := hXl22.trans0 hXl113
   rw [List.drop_eq_nil_of_le (by omega)] at ha
   have hfe : (fH H1 0).1 = 0 := by rw [ha]; rfl
   refine xt2 <| hK111 _ _ <| sdq 4 [.p, .p, .p, .p] [] [(2, Sn S w2.heap.size), (3, I6 0), (4, I6 0)] [] hS .nil fun a hS => wpIn_ret ?_
   refine ret3 hS Tryd.results18 rfl rfl rfl ?_
   exact ⟨(R1, H1), hZ, .inr ⟨hfe, _, _, rfl, (Yr.lsts hG117 hgn0).more hN0⟩, (hE6.trans0 hEl113)⟩
end Go.Proofs.YtkkpghlcmcaoiaaDoor
