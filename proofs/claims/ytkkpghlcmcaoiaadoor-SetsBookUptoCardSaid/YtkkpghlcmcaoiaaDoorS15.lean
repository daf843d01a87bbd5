import Derived.Test.YtkkpghlcmcaoiaaDoorSt9
import Derived.Test.YtkkpghlcmcaoiaaDoorVw
namespace Go.Proofs.YtkkpghlcmcaoiaaDoor
open Go.Vc Go.Gm
set_option maxHeartbeats 1000000 in
theorem makes_any {w0 w : World} {S : Sp} (hG : SpOk w0 S) (hb : Ext [] w0 w) (hI : Ix S) {p : Pd} (hpm : p ∈ S.ps) {N g cp gv cv sb lb : Nat} {L : List Rw} {R : List (List Nat)} {vs : List Nat} (hsb : Blk w sb 26 S.ca) (hlb : Blk w lb 51 #[Sl gv S.ns.length cv]) (hY : Yr N w g cp S.ns.length L R) (hgv : OwnR w 3 1 gv cv S.ns.length (ivs vs)) (hv4 : ∀ v ∈ vs, v ≤ 4097) (hRl : ∀ u ∈ R, u.length ≤ 4097) :
  Calls Tryd.prog 94 #[Sl g S.ns.length cp, .agg #[I6 p.l, p.rv], (Pv sb), (Pv lb)] w fun e w' => ∃ bs n cq zs ok, e = .returned (.tuple #[.slice bs n cq, .bool ok]) ∧ RowN w.heap.size w' bs n cq zs ∧ MadeR S (vf 4097 vs) R p zs ok ∧ zs.length ≤ 4097 ∧ Ext [] w w' := by
 have hlmax := hG.lmax
 have hnmax := hG.nmax
 have hpmax := hG.pmax
 have hrm := hG.rmax p hpm
 have hpl := hI.pl hpm
 have hyl := hY.len
 have hvl : vs.length = S.ns.length := by have := hgv.len; rw [ivs_len] at this; omega
 obtain ⟨vl, hvp⟩ : ∃ vl, vs[p.l.toNat]? = some vl := gE
 have hvl4 := hv4 vl (List.mem_of_getElem? hvp)
 have hvfp := vf_at (top := 4097) hvp
 refine cbd 74 [(0, Sl g S.ns.length cp), (1, .agg #[I6 p.l, p.rv]), (2, (Pv sb)), (3, (Pv lb))] Tryd.func94 rfl fun a hS => ?_
 have hE0 : Ext [] w w := Ext.refl _ _
 refine sq fun K1 hK1 => rgn 3 <| ebx 2 #[I6 p.l, p.rv] 73 (some 5) hS fun a w2 hw3 hS => ?_
 have hB8 := Blk.at' hw3 (hsb.alloc _)
 have hB9 := Blk.at' hw3 (hlb.alloc _)
 have hB10 := OwnR.at' hw3 (hY.own.alloc _)
 have hB11 := OwnR.at' hw3 (hgv.alloc _)
 have hB12 := Blk.nw hw3
 have hs13 := hE0.size
 have hE14 := hE0.al hw3
 refine sd ww [.p, .p] [] [(6, .slice none 0 0), (7, .bool false)] [] 3 0 hS .nil fun a hS => sge hK1 <| sdq 1 [.p] [] [(8, .slice none 0 0)] [] hS .nil fun a hS => sq fun K16 hK16 => sdq 4 [.p, .ld (p.rv), .run (I6 p.r.length), .p] [_, Rv (Builtin.len_ #[71] 3 #[p.rv]) (I6 p.r.length) w2] [(12, p.rv), (13, I6 p.r.length), (14, I6 0)] [] hS (hB12.k 1 (.c (rlr 61 (hG.right p hpm)) .nil)) fun a hS => wpIn_block ?_
 have hgvl := hB11.lt
 have hbl18 := (hb.trans0 hE14)
 refine loop_ghost (fun ((k, bs, n, cq, zs) : Nat × (Option Addr) × Nat × Nat × (List Nat)) a' w' => St 74 [] [(0, Sl g S.ns.length cp), (5, (Pv w.heap.size)), (2, (Pv sb)), (3, (Pv lb)), (12, p.rv), (13, I6 p.r.length), (14, I6 k), (8, .slice bs n cq)] a' ∧ Ext [] w2 w' ∧ k ≤ p.r.length ∧ RowN w2.heap.size w' bs n cq zs ∧ MadeK S (vf 4097 vs) R p k zs) (fun ((k, bs, n, cq, zs) : Nat × (Option Addr) × Nat × Nat × (List Nat)) => p.r.length - k) (0, none, 0, 0, []) ⟨hS.keepTo [0, 5, 2, 3, 12, 13, 14, 8] (by kernel_rfl), Ext.refl _ _, by omega, ⟨OwnV.nil _ _ _, fun x hx => by simp [ob] at hx⟩, .start⟩ ?_
 rintro ⟨k, bs, n, cq, zs⟩ a wl18 ⟨hS, hXl18, hk, hR, hK⟩
 have hB19 := hB8.ext hXl18 (by simp)
 have hB20 := hB9.ext hXl18 (by simp)
 have hB21 := hB10.ext hXl18 (by simp)
 have hB22 := hB11.ext hXl18 (by simp)
 have hB23 := hB12.ext hXl18 (by simp)
 refine sdq 1 [.p] [] [(15, .bool (decide ((↑k : Int) < ↑p.r.length)))] [] hS .nil fun a hS => sq fun K25 hK25 => ?_
 refine cond_b hS rfl (fun hb26 => ?_) (fun hb26 => ?_)
 ·
  replace hb26 := of_decide_eq_true hb26
  obtain ⟨x, hxk⟩ : ∃ x, p.r[k]? = some x := gE
  have hxm := List.mem_of_getElem? hxk
  have hnz := hR.len
  have hkl := hK.l
  rw [hvfp] at hkl
  refine wpIn_skip <| hK25 _ _ <| sq fun K27 hK27 => wpIn_block <| sq fun K28 hK28 => rgn 4 <| sd ww [.run ((Po (bof p.rv) (oof p.rv + k * 2))), .lds [I6 x.1, I6 x.2]] [Rv (Instr.indexAt 71 (p.rv) (I6 k)) ((Po (bof p.rv) (oof p.rv + k * 2))) wl18, wl18.cell? ⟨bof p.rv, oof p.rv + k * 2, none⟩ = some (I6 x.1), wl18.cell? ⟨bof p.rv, oof p.rv + k * 2 + 1, none⟩ = some (I6 x.2)] [(17, .agg #[I6 x.1, I6 x.2])] [] 2 2 hS (.c (ixr 61 k (hG.right p hpm)) (.c (((hG.right p hpm).ext0 (hbl18.trans0 hXl18)).cellAt (k * 2 + 0) (by omega) (ycells_at p.r k 0 x hxk (by omega))) (.c (((hG.right p hpm).ext0 (hbl18.trans0 hXl18)).cellAt (k * 2 + 1) (by omega) (ycells_at p.r k 1 x hxk (by omega))) .nil))) fun a hS => ebx 1 #[I6 0, I6 0] 61 (some 10) hS fun a w29 hw30 hS => ?_
  have hn31 := Nat.ne_of_lt hB19.lt
  have hn32 := Nat.ne_of_lt hB20.lt
  have hn33 := Nat.ne_of_lt hB21.lt
  have hn34 := Nat.ne_of_lt hB22.lt
  have hn35 := Nat.ne_of_lt hB23.lt
  have hn36 : ∀ x ∈ ob (.slice bs n cq), wl18.heap.size ≠ x := fun x hx => Nat.ne_of_gt (hR.own.lie x hx)
  have hB37 := Blk.at' hw30 (hB19.alloc _)
  have hB38 := Blk.at' hw30 (hB20.alloc _)
  have hB39 := OwnR.at' hw30 (hB21.alloc _)
  have hB40 := OwnR.at' hw30 (hB22.alloc _)
  have hB41 := Blk.at' hw30 (hB23.alloc _)
  have hB42 := OwnV.at' hw30 (hR.own.alloc _)
  have hB43 := Blk.nw hw30
  have hs44 := hXl18.size
  have hE45 := hXl18.al hw30
  refine est 0 wl18.heap.size 0 [I6 x.1, I6 x.2] hS hB43 fun a w46 hw47 hS => ?_
  have hB48 := Blk.at' hw47 (hB37.updNe (Ne.symm hn31) _ _)
  have hB49 := Blk.at' hw47 (hB38.updNe (Ne.symm hn32) _ _)
  have hB50 := OwnR.at' hw47 (hB39.updNe (Ne.symm hn33) _ _)
  have hB51 := OwnR.at' hw47 (hB40.updNe (Ne.symm hn34) _ _)
  have hB52 := Blk.at' hw47 (hB41.updNe (Ne.symm hn35) _ _)
  have hB53 := OwnV.at' hw47 (hB42.updNe hn36 _ _)
  have hB54 : Blk w46 wl18.heap.size 61 (#[I6 x.1, I6 x.2]) := hB43.up hw47
  have hE55 := hE45.ui hw47 hs44
  refine sge hK28 <| sq fun K56 hK56 => sq fun K57 hK57 => ?_
  rcases (show (x.1 = 1 ∧ 0 ≤ x.2 ∧ x.2 < S.lx.length ∧ sm x = .t x.2.toNat) ∨ (x.1 = 2 ∧ x.2 = 0 ∧ sm x = .e) ∨ (x.1 = 3 ∧ 0 ≤ x.2 ∧ x.2 < S.ns.length ∧ sm x = .m x.2.toNat) from hI.kinds hpm hxm) with ⟨h1, h2, h3, h4⟩ | ⟨h1, h2, h3⟩ | ⟨h1, h2, h3, h4⟩
  ·
   have hy1 : sy1 S.nl R (sm x) = [x.2.toNat] := by rw [h4]; rfl
   refine rgn 2 <| sd ww [.p, .ld (I6 x.1)] [_] [(19, I6 x.1)] [] 2 0 hS (hB54.k 0 .nil) fun a hS => sge hK57 <| wpIn_block <| sdq 2 [.as (.bool true), .p] [Value.bool (((x.1 : Int) == 1)) = .bool true] [(41, .bool true)] [] hS (.c (as_eq_t (by omega)) .nil) fun a hS => ?_
   refine cond_t hS rfl ?_
   refine rgn 6 <| sd ww [.p, .p, .ld (I6 x.2)] [_] [(43, .slice bs n cq), (45, I6 x.2)] [] 3 3 hS (hB54.k 1 .nil) fun a hS => eff_new ww (r := 2) (cs := #[I6 x.2]) (T := 3) (v := Value.slice (some ⟨w46.heap.size, 0, none⟩) 1 1) (d := (some 46)) hS (by kernel_rfl) fun a w59 hw60 hS => ?_
   have hB69 := Blk.at' hw60 (hB49.alloc _)
   have hB71 := OwnR.at' hw60 (hB51.alloc _)
   have hB72 := Blk.at' hw60 (hB52.alloc _)
   have hB73 := OwnV.at' hw60 (hB53.alloc _)
   have hB75 := Blk.nw hw60
   have hs76 := hE55.size
   have hE77 := hE55.al hw60
   refine eff_append2 ww (r := 1) (d := (some 47)) (t := 51) (ty := 51) (e := 3) (size := 1) (bytes := 8) (len := n) (b := w46.heap.size) (off := 0) (k := 1) (c := 1) (z := #[I6 0]) (v := Value.slice bs n cq) (xs := (ivs zs)) [I6 x.2] hS (by kernel_rfl) (by kernel_rfl) (by kernel_rfl) (by kernel_rfl) (by kernel_rfl) hB73 (by simp) (fun j u hu => by rw [Nat.zero_add]; exact hB75.cell j (by simpa using hu)) rfl (by omega) (by omega) (by omega) fun ga78 ca78 a wa78 hOa78 hEa78 hFa78 hS => ?_
   have hB80 := hB69.ext hEa78 (hB73.notin hB69 (by decide))
   have hB82 := hB71.ext hEa78 ((fun hm => absurd (hR.new _ hm) (Nat.not_le.2 hgvl)))
   have hB83 := hB72.ext hEa78 (hB73.notin hB72 (by decide))
   have hE86 : Ext [] w2 wa78 := hE77.trans hEa78 (fun b hb => .inr (hR.new b hb))
   refine sd ww [.p] [] [(8, Sl ga78 (n + 1) ca78)] [] 6 0 hS .nil fun a hS => seg_end <| inBlock_normal <| hK56 _ _ <| sq fun K87 hK87 => rgn 8 <| sg ww [.p, .p, .ld (Sl gv S.ns.length cv), .p, .ld (I6 p.l), .run ((Po gv (0 + p.l.toNat * 1))), .ld (I6 vl), .p] [_, _, Rv (Instr.indexAt 51 (Sl gv S.ns.length cv) (I6 p.l)) ((Po gv (0 + p.l.toNat * 1))) wa78, wa78.cell? ⟨gv, 0 + p.l.toNat * 1, none⟩ = some (I6 vl)] [(0, Sl g S.ns.length cp), (5, (Pv w.heap.size)), (2, (Pv sb)), (3, (Pv lb)), (12, p.rv), (13, I6 p.r.length), (14, I6 k), (8, Sl ga78 (n + 1) ca78), (15, .bool (decide ((↑k : Int) < ↑p.r.length))), (10, (Pv wl18.heap.size)), (19, I6 x.1), (41, .bool true), (63, .bool (decide ((((n + 1 : Nat) : Int) : Int) > ↑vl)))] 8 0 hS (hB80.k 0 (hB83.k 0 (.c (ixz 3 1 p.l) (.c ((hB82).cellAt _ (ivs_at hvp)) .nil)))) fun a hS => sge hK87 ?_
   refine cond_b hS rfl (fun hb88 => ?_) (fun hb88 => ?_)
   ·
    replace hb88 := of_decide_eq_true hb88
    refine sdq 2 [.p, .p] [] [(6, .slice none 0 0), (7, .bool false)] [] hS .nil fun a hS => wpIn_ret <| inBlock_ret <| then_ret <| then_ret <| inBlock_ret <| then_ret ?_
    refine ret2 hS Tryd.results94 rfl rfl ?_
    exact ⟨none, 0, 0, [], false, rfl, ⟨OwnV.nil _ _ _, fun x hx => by simp [ob] at hx⟩, .over hK hxk (by rw [hvfp, hy1]; simp only [List.length_append, List.length_cons, List.length_nil]; omega), Nat.zero_le _, (hE14.trans0 hE86)⟩
   ·
    replace hb88 := of_decide_eq_false hb88
    refine wpIn_skip <| inBlock_normal <| hK27 _ _ <| rgn 2 <| sd ww [.as (I6 (↑k + 1)), .p] [_] [(14, I6 (↑k + 1))] [] 2 0 hS (as6 (↑k + 1)) fun a hS => seg_end ?_
    exact ⟨(k + 1, (some ⟨ga78, 0, none⟩), (n + 1), ca78, (zs ++ sy1 S.nl R (sm x))), ⟨hS.kp [(0, Sl g S.ns.length cp), (5, (Pv w.heap.size)), (2, (Pv sb)), (3, (Pv lb)), (12, p.rv), (13, I6 p.r.length), (14, I6 (↑k + 1)), (8, Sl ga78 (n + 1) ca78)], hE86, by omega, (by rw [hy1]; exact hR.growI (Int.toNat_of_nonneg h2).symm hOa78 hE77.size hFa78), hK.step hxk (fun B hB => by rw [h4] at hB; cases hB) (by rw [hvfp, hy1]; simp only [List.length_append, List.length_cons, List.length_nil]; omega)⟩, by simp only; omega⟩
  ·
   have hy1 : sy1 S.nl R (sm x) = [S.nl] := by rw [h3]; rfl
   refine rgn 2 <| sd ww [.p, .ld (I6 x.1)] [_] [(19, I6 x.1)] [] 2 0 hS (hB54.k 0 .nil) fun a hS => sge hK57 <| wpIn_block <| sdq 2 [.as (.bool false), .p] [Value.bool (((x.1 : Int) == 1)) = .bool false] [(41, .bool false)] [] hS (.c (as_eq_f (by omega)) .nil) fun a hS => ?_
   refine cond_f hS rfl ?_
   refine sdq 2 [.as (.bool true), .p] [Value.bool (((x.1 : Int) == 2)) = .bool true] [(48, .bool true)] [] hS (.c (as_eq_t (by omega)) .nil) fun a hS => ?_
   refine cond_t hS rfl ?_
   refine rgn 7 <| sd ww [.p, .p, .ld (S.lv), .run (I6 S.lx.length)] [_, Rv (Builtin.len_ #[22] 3 #[S.lv]) (I6 S.lx.length) w46] [(50, .slice bs n cq), (53, I6 S.lx.length)] [] 4 3 hS (hB48.k 0 (.c (rlr 100 hG.lex) .nil)) fun a hS => eff_new ww (r := 2) (cs := #[I6 S.lx.length]) (T := 3) (v := Value.slice (some ⟨w46.heap.size, 0, none⟩) 1 1) (d := (some 54)) hS (by kernel_rfl) fun a w92 hw93 hS => ?_
   have hB102 := Blk.at' hw93 (hB49.alloc _)
   have hB104 := OwnR.at' hw93 (hB51.alloc _)
   have hB105 := Blk.at' hw93 (hB52.alloc _)
   have hB106 := OwnV.at' hw93 (hB53.alloc _)
   have hB108 := Blk.nw hw93
   have hs109 := hE55.size
   have hE110 := hE55.al hw93
   refine eff_append2 ww (r := 1) (d := (some 55)) (t := 51) (ty := 51) (e := 3) (size := 1) (bytes := 8) (len := n) (b := w46.heap.size) (off := 0) (k := 1) (c := 1) (z := #[I6 0]) (v := Value.slice bs n cq) (xs := (ivs zs)) [I6 S.lx.length] hS (by kernel_rfl) (by kernel_rfl) (by kernel_rfl) (by kernel_rfl) (by kernel_rfl) hB106 (by simp) (fun j u hu => by rw [Nat.zero_add]; exact hB108.cell j (by simpa using hu)) rfl (by omega) (by omega) (by omega) fun ga111 ca111 a wa111 hOa111 hEa111 hFa111 hS => ?_
   have hB113 := hB102.ext hEa111 (hB106.notin hB102 (by decide))
   have hB115 := hB104.ext hEa111 ((fun hm => absurd (hR.new _ hm) (Nat.not_le.2 hgvl)))
   have hB116 := hB105.ext hEa111 (hB106.notin hB105 (by decide))
   have hE119 : Ext [] w2 wa111 := hE110.trans hEa111 (fun b hb => .inr (hR.new b hb))
   refine sg ww [.p] [] [(0, Sl g S.ns.length cp), (5, (Pv w.heap.size)), (2, (Pv sb)), (3, (Pv lb)), (12, p.rv), (13, I6 p.r.length), (14, I6 k), (8, Sl ga111 (n + 1) ca111), (15, .bool (decide ((↑k : Int) < ↑p.r.length))), (10, (Pv wl18.heap.size)), (19, I6 x.1), (41, .bool false), (48, .bool true)] 7 0 hS .nil fun a hS => seg_end <| inBlock_normal <| hK56 _ _ <| sdq 8 [.p, .p, .ld (Sl gv S.ns.length cv), .p, .ld (I6 p.l), .run ((Po gv (0 + p.l.toNat * 1))), .ld (I6 vl), .p] [_, _, Rv (Instr.indexAt 51 (Sl gv S.ns.length cv) (I6 p.l)) ((Po gv (0 + p.l.toNat * 1))) wa111, wa111.cell? ⟨gv, 0 + p.l.toNat * 1, none⟩ = some (I6 vl)] [(63, .bool (decide ((((n + 1 : Nat) : Int) : Int) > ↑vl)))] [] hS (hB113.k 0 (hB116.k 0 (.c (ixz 3 1 p.l) (.c ((hB115).cellAt _ (ivs_at hvp)) .nil)))) fun a hS => ?_
   refine cond_b hS rfl (fun hb121 => ?_) (fun hb121 => ?_)
   ·
    replace hb121 := of_decide_eq_true hb121
    refine sdq 2 [.p, .p] [] [(6, .slice none 0 0), (7, .bool false)] [] hS .nil fun a hS => wpIn_ret <| inBlock_ret <| then_ret <| then_ret <| inBlock_ret <| then_ret ?_
    refine ret2 hS Tryd.results94 rfl rfl ?_
    exact ⟨none, 0, 0, [], false, rfl, ⟨OwnV.nil _ _ _, fun x hx => by simp [ob] at hx⟩, .over hK hxk (by rw [hvfp, hy1]; simp only [List.length_append, List.length_cons, List.length_nil]; omega), Nat.zero_le _, (hE14.trans0 hE119)⟩
   ·
    replace hb121 := of_decide_eq_false hb121
    refine wpIn_skip <| inBlock_normal <| hK27 _ _ <| rgn 2 <| sd ww [.as (I6 (↑k + 1)), .p] [_] [(14, I6 (↑k + 1))] [] 2 0 hS (as6 (↑k + 1)) fun a hS => seg_end ?_
    exact ⟨(k + 1, (some ⟨ga111, 0, none⟩), (n + 1), ca111, (zs ++ sy1 S.nl R (sm x))), ⟨hS.kp [(0, Sl g S.ns.length cp), (5, (Pv w.heap.size)), (2, (Pv sb)), (3, (Pv lb)), (12, p.rv), (13, I6 p.r.length), (14, I6 (↑k + 1)), (8, Sl ga111 (n + 1) ca111)], hE119, by omega, (by rw [hy1]; exact hR.growI rfl hOa111 hE110.size hFa111), hK.step hxk (fun B hB => by rw [h3] at hB; cases hB) (by rw [hvfp, hy1]; simp only [List.length_append, List.length_cons, List.length_nil]; omega)⟩, by simp only; omega⟩
  ·
   refine rgn 2 <| sd ww [.p, .ld (I6 x.1)] [_] [(19, I6 x.1)] [] 2 0 hS (hB54.k 0 .nil) fun a hS => sge hK57 <| wpIn_block <| sdq 2 [.as (.bool false), .p] [Value.bool (((x.1 : Int) == 1)) = .bool false] [(41, .bool false)] [] hS (.c (as_eq_f (by omega)) .nil) fun a hS => ?_
   refine cond_f hS rfl ?_
   refine sdq 2 [.as (.bool false), .p] [Value.bool (((x.1 : Int) == 2)) = .bool false] [(48, .bool false)] [] hS (.c (as_eq_f (by omega)) .nil) fun a hS => ?_
   refine cond_f hS rfl ?_
   refine sq fun K125 hK125 => sq fun K126 hK126 => ?_
   obtain ⟨vb, hvb⟩ : ∃ vb, vs[x.2.toNat]? = some vb := gE
   obtain ⟨u, hu⟩ : ∃ u, R[x.2.toNat]? = some u := gE
   have hru := rF_at hu
   have hvfb := vf_at (top := 4097) hvb
   have hul := hRl u (List.mem_of_getElem? hu)
   have hy1 : sy1 S.nl R (sm x) = u := by rw [h4]; exact hru
   have hYl := hY.ext0 (hE14.trans0 hE55)
   rcases (show (u = [] ∧ (L.map Rw.v)[0 + x.2.toNat * 1]? = some (Value.slice none 0 0)) ∨ (u ≠ [] ∧ ∃ gq cq, (L.map Rw.v)[0 + x.2.toNat * 1]? = some (Value.slice (some ⟨gq, 0, none⟩) u.length cq) ∧ OwnR w46 3 1 gq cq u.length (ivs u)) from hYl.at hu) with ⟨hu0, hc⟩ | ⟨hu0, gq, cq2, hc, hOq⟩
   ·
    refine rgn 14 <| sd ww [.p, .p, .ld (I6 x.2), .run ((Po g (0 + x.2.toNat * 1))), .ld (.slice none 0 0), .p, .p, .ld (Sl gv S.ns.length cv), .p, .ld (I6 x.2), .run ((Po gv (0 + x.2.toNat * 1))), .ld (I6 vb), .p, .p] [_, Rv (Instr.indexAt 37 (Sl g S.ns.length cp) (I6 x.2)) ((Po g (0 + x.2.toNat * 1))) w46, w46.cell? ⟨g, 0 + x.2.toNat * 1, none⟩ = some (.slice none 0 0), _, _, Rv (Instr.indexAt 51 (Sl gv S.ns.length cv) (I6 x.2)) ((Po gv (0 + x.2.toNat * 1))) w46, w46.cell? ⟨gv, 0 + x.2.toNat * 1, none⟩ = some (I6 vb)] [(33, .bool (decide ((↑vb : Int) > 0)))] [] 14 0 hS (hB54.k 1 (.c (ixz 51 1 x.2) (.c ((hB50).cellAt _ (hc)) (hB49.k 0 (hB54.k 1 (.c (ixz 3 1 x.2) (.c ((hB51).cellAt _ (ivs_at hvb)) .nil))))))) fun a hS => sge hK126 ?_
    refine cond_b hS rfl (fun hb127 => ?_) (fun hb127 => ?_)
    ·
     replace hb127 := of_decide_eq_true hb127
     refine sq fun K128 hK128 => rgn 2 <| sg ww [.p, .p] [] [(0, Sl g S.ns.length cp), (5, (Pv w.heap.size)), (2, (Pv sb)), (3, (Pv lb)), (12, p.rv), (13, I6 p.r.length), (14, I6 k), (8, .slice bs n cq), (15, .bool (decide ((↑k : Int) < ↑p.r.length))), (10, (Pv wl18.heap.size)), (19, I6 x.1), (41, .bool false), (48, .bool false), (33, .bool (decide ((↑vb : Int) > 0))), (6, .slice none 0 0), (7, .bool false)] 2 0 hS .nil fun a hS => sge hK128 <| wpIn_ret <| then_ret <| inBlock_ret <| then_ret <| inBlock_ret <| then_ret <| then_ret <| inBlock_ret <| then_ret ?_
     refine ret2 hS Tryd.results94 rfl rfl ?_
     exact ⟨none, 0, 0, [], false, rfl, ⟨OwnV.nil _ _ _, fun x hx => by simp [ob] at hx⟩, .lack hxk h4 (by rw [hvfb]; omega) (by rw [hru, hu0]), Nat.zero_le _, (hE14.trans0 hE55)⟩
    ·
     replace hb127 := of_decide_eq_false hb127
     refine wpIn_skip <| hK125 _ _ <| rgn 8 <| sg ww [.p, .p, .p, .ld (I6 x.2), .run ((Po g (0 + x.2.toNat * 1))), .ld (.slice none 0 0)] [_, Rv (Instr.indexAt 37 (Sl g S.ns.length cp) (I6 x.2)) ((Po g (0 + x.2.toNat * 1))) w46, w46.cell? ⟨g, 0 + x.2.toNat * 1, none⟩ = some (.slice none 0 0)] [(0, Sl g S.ns.length cp), (5, (Pv w.heap.size)), (2, (Pv sb)), (3, (Pv lb)), (12, p.rv), (13, I6 p.r.length), (14, I6 k), (8, .slice bs n cq), (15, .bool (decide ((↑k : Int) < ↑p.r.length))), (10, (Pv wl18.heap.size)), (19, I6 x.1), (41, .bool false), (48, .bool false), (33, .bool (decide ((↑vb : Int) > 0))), (34, .slice bs n cq), (39, .slice none 0 0)] 6 2 hS (hB54.k 1 (.c (ixz 51 1 x.2) (.c ((hB50).cellAt _ (hc)) .nil))) fun a hS => eff_run ww (r := 1) (s := vS (Builtin.append_ #[51, 51] 51 #[.slice bs n cq, .slice none 0 0])) (d := (some 40)) (v := .slice bs n cq) hS (by kernel_rfl) (vS_run (append_none (e := 3) (size := 1) (bytes := 8) (z := #[I6 0]) (by kernel_rfl) (by kernel_rfl) hB53)) fun a hS => sd ww [.p] [] [] [] 8 0 hS .nil fun a hS => seg_end <| inBlock_normal <| hK56 _ _ <| sdq 8 [.p, .p, .ld (Sl gv S.ns.length cv), .p, .ld (I6 p.l), .run ((Po gv (0 + p.l.toNat * 1))), .ld (I6 vl), .p] [_, _, Rv (Instr.indexAt 51 (Sl gv S.ns.length cv) (I6 p.l)) ((Po gv (0 + p.l.toNat * 1))) w46, w46.cell? ⟨gv, 0 + p.l.toNat * 1, none⟩ = some (I6 vl)] [(63, .bool (decide ((↑n : Int) > ↑vl)))] [] hS (hB49.k 0 (hB52.k 0 (.c (ixz 3 1 p.l) (.c ((hB51).cellAt _ (ivs_at hvp)) .nil)))) fun a hS => ?_
     refine cond_b hS rfl (fun hb130 => ?_) (fun hb130 => ?_)
     ·
      replace hb130 := of_decide_eq_true hb130
      refine sdq 2 [.p, .p] [] [(6, .slice none 0 0), (7, .bool false)] [] hS .nil fun a hS => wpIn_ret <| inBlock_ret <| then_ret <| then_ret <| inBlock_ret <| then_ret ?_
      refine ret2 hS Tryd.results94 rfl rfl ?_
      exact ⟨none, 0, 0, [], false, rfl, ⟨OwnV.nil _ _ _, fun x hx => by simp [ob] at hx⟩, .over hK hxk (by rw [hvfp, hy1, hu0]; simp only [List.length_append, List.length_cons, List.length_nil]; omega), Nat.zero_le _, (hE14.trans0 hE55)⟩
     ·
      replace hb130 := of_decide_eq_false hb130
      refine wpIn_skip <| inBlock_normal <| hK27 _ _ <| rgn 2 <| sd ww [.as (I6 (↑k + 1)), .p] [_] [(14, I6 (↑k + 1))] [] 2 0 hS (as6 (↑k + 1)) fun a hS => seg_end ?_
      exact ⟨(k + 1, bs, n, cq, (zs ++ sy1 S.nl R (sm x))), ⟨hS.kp [(0, Sl g S.ns.length cp), (5, (Pv w.heap.size)), (2, (Pv sb)), (3, (Pv lb)), (12, p.rv), (13, I6 p.r.length), (14, I6 (↑k + 1)), (8, .slice bs n cq)], hE55, by omega, (by rw [hy1, hu0, List.append_nil]; exact ⟨hB53, hR.new⟩), hK.step hxk (fun B hB hp => by rw [h4] at hB; cases hB; rw [hvfb] at hp; omega) (by rw [hvfp, hy1, hu0]; simp only [List.length_append, List.length_cons, List.length_nil]; omega)⟩, by simp only; omega⟩
   ·
    refine rgn 14 <| sd ww [.p, .p, .ld (I6 x.2), .run ((Po g (0 + x.2.toNat * 1))), .ld (Sl gq u.length cq2), .p, .p, .no, .no, .no, .no, .no, .no, .p] [_, Rv (Instr.indexAt 37 (Sl g S.ns.length cp) (I6 x.2)) ((Po g (0 + x.2.toNat * 1))) w46, w46.cell? ⟨g, 0 + x.2.toNat * 1, none⟩ = some (Sl gq u.length cq2)] [(33, .bool false)] [] 14 0 hS (hB54.k 1 (.c (ixz 51 1 x.2) (.c ((hB50).cellAt _ (hc)) .nil))) fun a hS => sge hK126 ?_
    refine cond_f hS rfl ?_
    refine wpIn_skip <| hK125 _ _ <| rgn 8 <| sg ww [.p, .p, .p, .ld (I6 x.2), .run ((Po g (0 + x.2.toNat * 1))), .ld (Sl gq u.length cq2)] [_, Rv (Instr.indexAt 37 (Sl g S.ns.length cp) (I6 x.2)) ((Po g (0 + x.2.toNat * 1))) w46, w46.cell? ⟨g, 0 + x.2.toNat * 1, none⟩ = some (Sl gq u.length cq2)] [(0, Sl g S.ns.length cp), (5, (Pv w.heap.size)), (2, (Pv sb)), (3, (Pv lb)), (12, p.rv), (13, I6 p.r.length), (14, I6 k), (8, .slice bs n cq), (15, .bool (decide ((↑k : Int) < ↑p.r.length))), (10, (Pv wl18.heap.size)), (19, I6 x.1), (41, .bool false), (48, .bool false), (33, .bool false), (34, .slice bs n cq), (39, Sl gq u.length cq2)] 6 2 hS (hB54.k 1 (.c (ixz 51 1 x.2) (.c ((hB50).cellAt _ (hc)) .nil))) fun a hS => eff_append_rd ww (r := 1) (d := (some 40)) (t := 51) (ty := 51) (e := 3) (size := 1) (bytes := 8) (len := n) (k := u.length) (z := #[I6 0]) (v := Value.slice bs n cq) (u := (Sl gq u.length cq2)) (xs := (ivs zs)) (news := (ivs u)) hS (by kernel_rfl) (by kernel_rfl) (by kernel_rfl) (by kernel_rfl) hB53 ((hOq.v.ext0' (Ext.refl [] w46)).rd) (ivs_one _) (by omega) (by omega) fun bs132 cp132 a wa132 hA132 hS => ?_
    have hEa132 : Ext (ob (Value.slice bs n cq)) w46 wa132 := hA132.ext
    have hO132 := hA132.own
    have hB134 := hB49.ext hEa132 (hB53.notin hB49 (by decide))
    have hB136 := hB51.ext hEa132 ((fun hm => absurd (hR.new _ hm) (Nat.not_le.2 hgvl)))
    have hB137 := hB52.ext hEa132 (hB53.notin hB52 (by decide))
    have hE139 : Ext [] w2 wa132 := hE55.trans hEa132 (fun b hb => .inr (hR.new b hb))
    have hnw132 : ∀ x ∈ ob (.slice bs132 (n + u.length) cp132), w2.heap.size ≤ x := fun x hx => by
     rcases hA132.fresh x (by simpa using hx) with h | h
     ·exact hR.new x h
     ·exact Nat.le_trans hE55.size h
    have hG140 : True := trivial
    refine sd ww [.p] [] [(8, .slice bs132 (n + u.length) cp132)] [] 8 0 hS .nil fun a hS => seg_end <| inBlock_normal <| hK56 _ _ <| sdq 8 [.p, .p, .ld (Sl gv S.ns.length cv), .p, .ld (I6 p.l), .run ((Po gv (0 + p.l.toNat * 1))), .ld (I6 vl), .p] [_, _, Rv (Instr.indexAt 51 (Sl gv S.ns.length cv) (I6 p.l)) ((Po gv (0 + p.l.toNat * 1))) wa132, wa132.cell? ⟨gv, 0 + p.l.toNat * 1, none⟩ = some (I6 vl)] [(63, .bool (decide ((((n + u.length : Nat) : Int) : Int) > ↑vl)))] [] hS (hB134.k 0 (hB137.k 0 (.c (ixz 3 1 p.l) (.c ((hB136).cellAt _ (ivs_at hvp)) .nil)))) fun a hS => ?_
    refine cond_b hS rfl (fun hb142 => ?_) (fun hb142 => ?_)
    ·
     replace hb142 := of_decide_eq_true hb142
     refine sdq 2 [.p, .p] [] [(6, .slice none 0 0), (7, .bool false)] [] hS .nil fun a hS => wpIn_ret <| inBlock_ret <| then_ret <| then_ret <| inBlock_ret <| then_ret ?_
     refine ret2 hS Tryd.results94 rfl rfl ?_
     exact ⟨none, 0, 0, [], false, rfl, ⟨OwnV.nil _ _ _, fun x hx => by simp [ob] at hx⟩, .over hK hxk (by rw [hvfp, hy1]; simp only [List.length_append, List.length_cons, List.length_nil]; omega), Nat.zero_le _, (hE14.trans0 hE139)⟩
    ·
     replace hb142 := of_decide_eq_false hb142
     refine wpIn_skip <| inBlock_normal <| hK27 _ _ <| rgn 2 <| sd ww [.as (I6 (↑k + 1)), .p] [_] [(14, I6 (↑k + 1))] [] 2 0 hS (as6 (↑k + 1)) fun a hS => seg_end ?_
     exact ⟨(k + 1, bs132, (n + u.length), cp132, (zs ++ sy1 S.nl R (sm x))), ⟨hS.kp [(0, Sl g S.ns.length cp), (5, (Pv w.heap.size)), (2, (Pv sb)), (3, (Pv lb)), (12, p.rv), (13, I6 p.r.length), (14, I6 (↑k + 1)), (8, .slice bs132 (n + u.length) cp132)], hE139, by omega, (by rw [hy1]; exact ⟨by rw [ivs_app]; exact hO132, hnw132⟩), hK.step hxk (fun B hB _ => by rw [h4] at hB; cases hB; rw [hru]; exact hu0) (by rw [hvfp, hy1]; simp only [List.length_append, List.length_cons, List.length_nil]; omega)⟩, by simp only; omega⟩
 ·
  replace hb26 := of_decide_eq_false hb26
  have hEl18 : Ext [] w wl18 := hE14.trans0 hXl18
  have hke : k = p.r.length := by omega
  have hnz := hR.len
  have hkl := hK.l
  rw [hvfp] at hkl
  refine xt2 <| hK16 _ _ <| sq fun K144 hK144 => ?_
  refine fn3 [.q .p, .q .p, .q .p, .q (.ld (Sl gv S.ns.length cv)), .q .p, .q (.ld (I6 p.l)), .q (.run ((Po gv (0 + p.l.toNat * 1)))), .q (.ld (I6 vl)), .q .p, .q .p, .q .p] [0, 0, 0, 0, 0, 0, 0, 0, 0, 0, 0] [0, 0, 0, 0, 0, 0, 0, 0, 0, 0, 0] [0, 0, 2, 0, 0, 16, 56, 120, 254, 1, 1023] [] 0 ([(0, Sl g S.ns.length cp), (5, (Pv w.heap.size)), (2, (Pv sb)), (3, (Pv lb)), (12, p.rv), (13, I6 p.r.length), (14, I6 k), (8, .slice bs n cq), (65, .slice bs n cq), (66, .slice bs n cq), (67, I6 n), (68, Sl gv S.ns.length cv), (69, (Pv w.heap.size)), (70, I6 p.l), (71, (Po gv (0 + p.l.toNat * 1))), (72, I6 vl), (73, .bool ((↑n : Int) == ↑vl)), (6, .slice bs n cq), (7, .bool ((↑n : Int) == ↑vl))]) [wl18.drew] wl18.drew (fun w' => [(3, [w'.cell? ⟨lb, 0, none⟩ = some (Sl gv S.ns.length cv)]), (5, [w'.cell? ⟨w.heap.size, 0, none⟩ = some (I6 p.l)]), (6, [Rv (Instr.indexAt 51 (Sl gv S.ns.length cv) (I6 p.l)) ((Po gv (0 + p.l.toNat * 1))) w']), (7, [w'.cell? ⟨gv, 0 + p.l.toNat * 1, none⟩ = some (I6 vl)])]) [0, 5, 2, 3, 12, 13, 14, 8] [] hS (fun _ => by kernel_rfl) ?_ ?_ ?_
  ·intro e w' hw
   refine (.c ?_ (.c ?_ (.c ?_ (.c ?_ .nil))))
   ·intro h1 h2
    obtain rfl := Nat.le_antisymm h2 h1
    obtain rfl : w' = wl18.drew := hw.trans (by kernel_rfl)
    exact (.c ((hB20.drew : Blk wl18.drew lb 51 (#[Sl gv S.ns.length cv])).cell 0 rfl) .nil)
   ·intro h1 h2
    obtain rfl := Nat.le_antisymm h2 h1
    obtain rfl : w' = wl18.drew := hw.trans (by kernel_rfl)
    exact (.c ((hB23.drew : Blk wl18.drew w.heap.size 73 (#[I6 p.l, p.rv])).cell 0 rfl) .nil)
   ·exact fun _ _ => (.c (ixz 3 1 p.l) .nil)
   ·intro h1 h2
    obtain rfl := Nat.le_antisymm h2 h1
    obtain rfl : w' = wl18.drew := hw.trans (by kernel_rfl)
    exact (.c ((hB22.drew : OwnR wl18.drew 3 1 gv cv S.ns.length (ivs vs)).cellAt _ (ivs_at hvp)) .nil)
  ·refine .nil
  rintro a w146 hS hw147
  replace hw147 : w146 = wl18.drew := hw147.trans (by kernel_rfl)
  have hB153 := OwnV.at' hw147 (hR.own.drew)
  have hE154 : Ext [] w w146 := by rw [hw147]; exact hEl18.drew
  replace hS := hS.kp [(0, Sl g S.ns.length cp), (5, (Pv w.heap.size)), (2, (Pv sb)), (3, (Pv lb)), (12, p.rv), (13, I6 p.r.length), (14, I6 k), (8, .slice bs n cq), (6, .slice bs n cq), (7, .bool ((↑n : Int) == ↑vl))]
  refine hK144 _ _ <| wpIn_ret ?_
  refine ret2 hS Tryd.results94 rfl rfl ?_
  exact ⟨_, _, _, zs, _, rfl, ⟨hB153, fun y hy => Nat.le_trans hE14.size (hR.new y hy)⟩, (show MadeK S (vf 4097 vs) R p p.r.length zs from hke ▸ hK).done (by rw [hvfp]; simp; omega), by omega, hE154⟩
end Go.Proofs.YtkkpghlcmcaoiaaDoor
