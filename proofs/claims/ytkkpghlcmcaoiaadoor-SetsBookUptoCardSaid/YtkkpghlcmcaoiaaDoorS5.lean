import Derived.Test.YtkkpghlcmcaoiaaDoorS4
import Derived.Test.YtkkpghlcmcaoiaaDoorSt
import Derived.Test.YtkkpghlcmcaoiaaDoorVd
namespace Go.Proofs.YtkkpghlcmcaoiaaDoor
open Go.Vc Go.Gm
theorem reached1_any {w0 w : World} {S : Sp} (hG : SpOk w0 S) (hb : Ext [] w0 w) (hI : Ix S) {c1 c2 g1 g2 sb : Nat} {b1 b2 : List Bool} (hsb : Blk w sb 26 S.ca) (hg1 : OwnR w 4 1 g1 c1 S.ns.length (bls b1)) (hg2 : OwnR w 4 1 g2 c2 S.lx.length (bls b2)) (hne : g1 ≠ g2) (hn1 : w0.heap.size ≤ g1) (hn2 : w0.heap.size ≤ g2) (hs : RcS S (b1, b2)) :
  Calls Tryd.prog 103 #[.agg #[Sl g1 S.ns.length c1, Sl g2 S.lx.length c2], (Pv sb)] w fun e w' => ∃ x1 x2 gr, e = .returned (.tuple #[.agg #[Sl g1 S.ns.length c1, Sl g2 S.lx.length c2], .bool gr]) ∧ OwnR w' 4 1 g1 c1 S.ns.length (bls x1) ∧ OwnR w' 4 1 g2 c2 S.lx.length (bls x2) ∧ RcP S S.ps.length (b1, b2) (x1, x2) gr ∧ Ext [g1, g2] w w' := by
 have hlmax := hG.lmax
 have hnmax := hG.nmax
 have hpmax := hG.pmax
 refine cbd 61 [(0, .agg #[Sl g1 S.ns.length c1, Sl g2 S.lx.length c2]), (1, (Pv sb))] Tryd.func103 rfl fun a hS => ?_
 have hE0 : Ext [g1, g2] w w := Ext.refl _ _
 refine sq fun K1 hK1 => rgn 3 <| ebx 2 #[Sl g1 S.ns.length c1, Sl g2 S.lx.length c2] 152 (some 2) hS fun a w2 hw3 hS => ?_
 have hn5 := Nat.ne_of_lt hg1.lt
 have hn6 := Nat.ne_of_lt hg2.lt
 have hB7 := Blk.at' hw3 (hsb.alloc _)
 have hB8 := OwnR.at' hw3 (hg1.alloc _)
 have hB9 := OwnR.at' hw3 (hg2.alloc _)
 have hB10 := Blk.nw hw3
 have hs11 := hE0.size
 have hE12 := hE0.al hw3
 refine ebx 1 #[.slice none 0 0, .slice none 0 0] 152 (some 3) hS fun a w13 hw14 hS => ?_
 have hn16 := Nat.ne_of_lt hB8.lt
 have hn17 := Nat.ne_of_lt hB9.lt
 have hB19 := Blk.at' hw14 (hB7.alloc _)
 have hB20 := OwnR.at' hw14 (hB8.alloc _)
 have hB21 := OwnR.at' hw14 (hB9.alloc _)
 have hB22 := Blk.at' hw14 (hB10.alloc _)
 have hB23 := Blk.nw hw14
 have hs24 := hE12.size
 have hE25 := hE12.al hw14
 refine sd ww [.p] [] [(4, .bool false)] [] 3 0 hS .nil fun a hS => sge hK1 <| sdq 1 [.p] [] [(5, .bool false)] [] hS .nil fun a hS => sq fun K27 hK27 => sdq 4 [.p, .ld (S.pv), .run (I6 S.ps.length), .p] [_, Rv (Builtin.len_ #[24] 3 #[S.pv]) (I6 S.ps.length) w13] [(12, S.pv), (13, I6 S.ps.length), (14, I6 0)] [] hS (hB19.k 3 (.c (rlr 73 hG.prods) .nil)) fun a hS => wpIn_block ?_
 have hbl29 := (hb.trans hE25 (fun b hbM => by simp at hbM; exact hbM.elim (fun hbM => by rw [hbM]; exact .inr hn1) fun hbM => by rw [hbM]; exact .inr hn2))
 refine loop_ghost (fun ((i, n1, n2, gr) : Nat × (List Bool) × (List Bool) × Bool) a' w' => St 61 [] [(2, (Pv w.heap.size)), (3, (Pv w2.heap.size)), (12, S.pv), (13, I6 S.ps.length), (14, I6 i), (5, .bool gr)] a' ∧ Ext [g1, g2] w13 w' ∧ i ≤ S.ps.length ∧ OwnR w' 4 1 g1 c1 S.ns.length (bls n1) ∧ OwnR w' 4 1 g2 c2 S.lx.length (bls n2) ∧ RcP S i (b1, b2) (n1, n2) gr) (fun ((i, n1, n2, gr) : Nat × (List Bool) × (List Bool) × Bool) => S.ps.length - i) (0, b1, b2, false) ⟨hS.keepTo [2, 3, 12, 13, 14, 5] (by kernel_rfl), Ext.refl _ _, by omega, hB20, hB21, .start hs⟩ ?_
 rintro ⟨i, n1, n2, gr⟩ a wl29 ⟨hS, hXl29, hi, hg1a, hg2a, hP⟩
 have hB31 := hB22.ext hXl29 (by simp; exact ⟨(Ne.symm hn5), (Ne.symm hn6)⟩)
 have hB32 := hB23.ext hXl29 (by simp; exact ⟨(Ne.symm hn16), (Ne.symm hn17)⟩)
 refine sdq 1 [.p] [] [(15, .bool (decide ((↑i : Int) < ↑S.ps.length)))] [] hS .nil fun a hS => sq fun K34 hK34 => ?_
 refine cond_b hS rfl (fun hb35 => ?_) (fun hb35 => ?_)
 ·
  replace hb35 := of_decide_eq_true hb35
  obtain ⟨p, hpi⟩ : ∃ p, S.ps[i]? = some p := gE
  have hpm := List.mem_of_getElem? hpi
  have hrm := hG.rmax p hpm
  have hpl := hI.pl hpm
  have hl1 : n1.length = S.ns.length := hP.snd.l1
  have hl2 : n2.length = S.lx.length := hP.snd.l2
  refine wpIn_skip <| hK34 _ _ <| sq fun K36 hK36 => wpIn_block <| sq fun K37 hK37 => rgn 4 <| sd ww [.run ((Po (bof S.pv) (oof S.pv + i * 2))), .lds [I6 p.l, p.rv]] [Rv (Instr.indexAt 24 (S.pv) (I6 i)) ((Po (bof S.pv) (oof S.pv + i * 2))) wl29, wl29.cell? ⟨bof S.pv, oof S.pv + i * 2, none⟩ = some (I6 p.l), wl29.cell? ⟨bof S.pv, oof S.pv + i * 2 + 1, none⟩ = some (p.rv)] [(17, .agg #[I6 p.l, p.rv])] [] 2 2 hS (.c (ixr 73 i hG.prods) (.c ((hG.prods.ext0 (hbl29.trans hXl29 (fun b hbM => by simp at hbM; exact hbM.elim (fun hbM => by rw [hbM]; exact .inr hn1) fun hbM => by rw [hbM]; exact .inr hn2))).cellAt (i * 2 + 0) (by omega) (pcells_at S.ps i 0 p hpi (by omega))) (.c ((hG.prods.ext0 (hbl29.trans hXl29 (fun b hbM => by simp at hbM; exact hbM.elim (fun hbM => by rw [hbM]; exact .inr hn1) fun hbM => by rw [hbM]; exact .inr hn2))).cellAt (i * 2 + 1) (by omega) (pcells_at S.ps i 1 p hpi (by omega))) .nil))) fun a hS => ebx 1 #[I6 0, .slice none 0 0] 73 (some 7) hS fun a w38 hw39 hS => ?_
  have hn41 := Nat.ne_of_lt hB31.lt
  have hn43 := Nat.ne_of_lt hg1a.lt
  have hn44 := Nat.ne_of_lt hg2a.lt
  have hB46 := Blk.at' hw39 (hB31.alloc _)
  have hB48 := OwnR.at' hw39 (hg1a.alloc _)
  have hB49 := OwnR.at' hw39 (hg2a.alloc _)
  have hB50 := Blk.nw hw39
  have hs51 := hXl29.size
  have hE52 := hXl29.al hw39
  refine est 0 wl29.heap.size 0 [I6 p.l, p.rv] hS hB50 fun a w53 hw54 hS => ?_
  have hB56 := Blk.at' hw54 (hB46.updNe (Ne.symm hn41) _ _)
  have hB58 := OwnR.at' hw54 (hB48.updNe (Ne.symm hn43) _ _)
  have hB59 := OwnR.at' hw54 (hB49.updNe (Ne.symm hn44) _ _)
  have hB60 : Blk w53 wl29.heap.size 73 (#[I6 p.l, p.rv]) := hB50.up hw54
  have hE61 := hE52.ui hw54 hs51
  refine sge hK37 <| sq fun K62 hK62 => sq fun K63 hK63 => ?_
  rcases (show (n1[p.l.toNat]? = some true) ∨ (n1[p.l.toNat]? = some false) from bool_cases (by omega)) with h1 | h1
  ·
   refine rgn 7 <| sd ww [.p, .ld (Sl g1 S.ns.length c1), .p, .ld (I6 p.l), .run ((Po g1 (0 + p.l.toNat * 1))), .ld (.bool true), .p] [_, _, Rv (Instr.indexAt 31 (Sl g1 S.ns.length c1) (I6 p.l)) ((Po g1 (0 + p.l.toNat * 1))) w53, w53.cell? ⟨g1, 0 + p.l.toNat * 1, none⟩ = some (.bool true)] [(24, .bool false)] [] 7 0 hS (hB56.k 0 (hB60.k 0 (.c (ixz 4 1 p.l) (.c ((hB58).cellAt _ (bls_at h1)) .nil)))) fun a hS => sge hK63 ?_
   refine cond_f hS rfl ?_
   refine wpIn_skip <| hK62 _ _ <| sdq 4 [.p, .ld (p.rv), .run (I6 p.r.length), .p] [_, Rv (Builtin.len_ #[71] 3 #[p.rv]) (I6 p.r.length) w53] [(26, p.rv), (27, I6 p.r.length), (28, I6 0)] [] hS (hB60.k 1 (.c (rlr 61 (hG.right p hpm)) .nil)) fun a hS => wpIn_block ?_
   have hbl65 : Ext [] w0 w53 := (hbl29.trans hE61 (fun b hbM => by simp at hbM; exact hbM.elim (fun hbM => by rw [hbM]; exact .inr hn1) fun hbM => by rw [hbM]; exact .inr hn2))
   refine loop_ghost (fun ((k, m1, m2, hr) : Nat × (List Bool) × (List Bool) × Bool) a' w' => St 61 [] [(2, (Pv w.heap.size)), (3, (Pv w2.heap.size)), (12, S.pv), (13, I6 S.ps.length), (14, I6 i), (7, (Pv wl29.heap.size)), (26, p.rv), (27, I6 p.r.length), (28, I6 k), (5, .bool hr)] a' ∧ Ext [g1, g2] w53 w' ∧ k ≤ p.r.length ∧ OwnR w' 4 1 g1 c1 S.ns.length (bls m1) ∧ OwnR w' 4 1 g2 c2 S.lx.length (bls m2) ∧ RcI S i p k (b1, b2) (m1, m2) hr) (fun ((k, m1, m2, hr) : Nat × (List Bool) × (List Bool) × Bool) => p.r.length - k) (0, n1, n2, gr) ⟨hS.keepTo [2, 3, 12, 13, 14, 7, 26, 27, 28, 5] (by kernel_rfl), Ext.refl _ _, by omega, hB58, hB59, .start hP h1⟩ ?_
   rintro ⟨k, m1, m2, hr⟩ a wl65 ⟨hS, hXl65, hk, hg1b, hg2b, hQ⟩
   have hB67 := hB56.ext hXl65 (by simp; exact ⟨(Ne.symm hn5), (Ne.symm hn6)⟩)
   have hl1 : m1.length = S.ns.length := hQ.h.snd.l1
   have hl2 : m2.length = S.lx.length := hQ.h.snd.l2
   refine sdq 1 [.p] [] [(29, .bool (decide ((↑k : Int) < ↑p.r.length)))] [] hS .nil fun a hS => sq fun K71 hK71 => ?_
   refine cond_b hS rfl (fun hb72 => ?_) (fun hb72 => ?_)
   ·
    replace hb72 := of_decide_eq_true hb72
    obtain ⟨x, hxk⟩ : ∃ x, p.r[k]? = some x := gE
    have hxm := List.mem_of_getElem? hxk
    refine wpIn_skip <| hK71 _ _ <| sq fun K73 hK73 => wpIn_block <| sq fun K74 hK74 => rgn 4 <| sd ww [.run ((Po (bof p.rv) (oof p.rv + k * 2))), .lds [I6 x.1, I6 x.2]] [Rv (Instr.indexAt 71 (p.rv) (I6 k)) ((Po (bof p.rv) (oof p.rv + k * 2))) wl65, wl65.cell? ⟨bof p.rv, oof p.rv + k * 2, none⟩ = some (I6 x.1), wl65.cell? ⟨bof p.rv, oof p.rv + k * 2 + 1, none⟩ = some (I6 x.2)] [(31, .agg #[I6 x.1, I6 x.2])] [] 2 2 hS (.c (ixr 61 k (hG.right p hpm)) (.c (((hG.right p hpm).ext0 (hbl65.trans hXl65 (fun b hbM => by simp at hbM; exact hbM.elim (fun hbM => by rw [hbM]; exact .inr hn1) fun hbM => by rw [hbM]; exact .inr hn2))).cellAt (k * 2 + 0) (by omega) (ycells_at p.r k 0 x hxk (by omega))) (.c (((hG.right p hpm).ext0 (hbl65.trans hXl65 (fun b hbM => by simp at hbM; exact hbM.elim (fun hbM => by rw [hbM]; exact .inr hn1) fun hbM => by rw [hbM]; exact .inr hn2))).cellAt (k * 2 + 1) (by omega) (ycells_at p.r k 1 x hxk (by omega))) .nil))) fun a hS => ebx 1 #[I6 0, I6 0] 61 (some 9) hS fun a w75 hw76 hS => ?_
    have hn78 := Nat.ne_of_lt hB67.lt
    have hn81 := Nat.ne_of_lt hg1b.lt
    have hn82 := Nat.ne_of_lt hg2b.lt
    have hB84 := Blk.at' hw76 (hB67.alloc _)
    have hB87 := OwnR.at' hw76 (hg1b.alloc _)
    have hB88 := OwnR.at' hw76 (hg2b.alloc _)
    have hB89 := Blk.nw hw76
    have hs90 := hXl65.size
    have hE91 := hXl65.al hw76
    refine est 0 wl65.heap.size 0 [I6 x.1, I6 x.2] hS hB89 fun a w92 hw93 hS => ?_
    have hB95 := Blk.at' hw93 (hB84.updNe (Ne.symm hn78) _ _)
    have hB98 := OwnR.at' hw93 (hB87.updNe (Ne.symm hn81) _ _)
    have hB99 := OwnR.at' hw93 (hB88.updNe (Ne.symm hn82) _ _)
    have hB100 : Blk w92 wl65.heap.size 61 (#[I6 x.1, I6 x.2]) := hB89.up hw93
    have hE101 := hE91.ui hw93 hs90
    refine sge hK74 <| sdq 1 [.p] [] [(10, .pointer none)] [] hS .nil fun a hS => sq fun K103 hK103 => sq fun K104 hK104 => ?_
    rcases (show (x.1 = 1 ∧ 0 ≤ x.2 ∧ x.2 < S.lx.length ∧ sm x = .t x.2.toNat) ∨ (x.1 = 2 ∧ x.2 = 0 ∧ sm x = .e) ∨ (x.1 = 3 ∧ 0 ≤ x.2 ∧ x.2 < S.ns.length ∧ sm x = .m x.2.toNat) from hI.kinds hpm hxm) with ⟨h1, h2, h3, h4⟩ | ⟨h1, h2, h3⟩ | ⟨h1, h2, h3, h4⟩
    ·
     refine rgn 2 <| sd ww [.p, .ld (I6 x.1)] [_] [(33, I6 x.1)] [] 2 0 hS (hB100.k 0 .nil) fun a hS => sge hK104 <| wpIn_block <| sdq 2 [.as (.bool true), .p] [Value.bool (((x.1 : Int) == 1)) = .bool true] [(34, .bool true)] [] hS (.c (as_eq_t (by omega)) .nil) fun a hS => ?_
     refine cond_t hS rfl ?_
     refine rgn 6 <| sd ww [.p, .ld (Sl g2 S.lx.length c2), .p, .ld (I6 x.2), .run ((Po g2 (0 + x.2.toNat * 1))), .p] [_, _, Rv (Instr.indexAt 31 (Sl g2 S.lx.length c2) (I6 x.2)) ((Po g2 (0 + x.2.toNat * 1))) w92] [(10, (Po g2 (0 + x.2.toNat * 1)))] [] 6 0 hS (hB95.k 1 (hB100.k 1 (.c (ixz 4 1 x.2) .nil))) fun a hS => seg_end <| inBlock_normal <| hK103 _ _ <| sq fun K106 hK106 => ?_
     rcases (show (hr = true) ∨ (hr = false ∧ m2[x.2.toNat]? = some true) ∨ (hr = false ∧ m2[x.2.toNat]? = some false) from gr_cases hr (by omega)) with h5 | h5 | h5
     ·
      refine rgn 8 <| sg ww [.as (.bool true), .p, .no, .no, .no, .no, .p, .p] [Value.bool hr = .bool true] [(2, (Pv w.heap.size)), (3, (Pv w2.heap.size)), (12, S.pv), (13, I6 S.ps.length), (14, I6 i), (7, (Pv wl29.heap.size)), (26, p.rv), (27, I6 p.r.length), (28, I6 k), (5, .bool true), (29, .bool (decide ((↑k : Int) < ↑p.r.length))), (9, (Pv wl65.heap.size)), (10, (Po g2 (0 + x.2.toNat * 1))), (33, I6 x.1), (34, .bool true)] 8 0 hS (.c (by rw [h5]) .nil) fun a hS => sge hK106 <| rgn 3 <| sd ww [.p, .p] [] [(56, (Po g2 (0 + x.2.toNat * 1)))] [] 2 1 hS .nil fun a hS => eff_store_own ww (r := 0) (b := g2) (off := 0 + x.2.toNat * 1) (u := Value.bool true) (xs := (bls m2)) hS (by kernel_rfl) hB99 (by omega) fun a ws107 hOs107 hEs107 hsz107 hS => ?_
      have hB112 := hB98.ext hEs107 (by simpa using hne)
      have hE114 : Ext [g1, g2] w53 ws107 := hE101.trans hEs107 (fun b hb => by simp at hb; subst hb; exact .inl (by simp))
      refine seg_end <| inBlock_normal <| hK73 _ _ <| rgn 2 <| sd ww [.as (I6 (↑k + 1)), .p] [_] [(28, I6 (↑k + 1))] [] 2 0 hS (as6 (↑k + 1)) fun a hS => seg_end ?_
      have hgs := hOs107
      rw [bls_set] at hgs
      exact ⟨(k + 1, m1, (m2.set x.2.toNat true), true), ⟨hS.kp [(2, (Pv w.heap.size)), (3, (Pv w2.heap.size)), (12, S.pv), (13, I6 S.ps.length), (14, I6 i), (7, (Pv wl29.heap.size)), (26, p.rv), (27, I6 p.r.length), (28, I6 (↑k + 1)), (5, .bool true)], hE114, by omega, hB112, hgs, (show RcI S i p k (b1, b2) (m1, m2) true from h5 ▸ hQ).mark' (hQ.h.snd.m2 hpm hQ.l hxm h4 (by omega)) hQ.l (mu2' (by omega))⟩, by simp only; omega⟩
     ·
      refine rgn 8 <| sg ww [.as (.bool false), .p, .p, .p, .ld (.bool true), .p, .p, .p] [Value.bool hr = .bool false, w92.cell? ⟨g2, 0 + x.2.toNat * 1, none⟩ = some (.bool true)] [(2, (Pv w.heap.size)), (3, (Pv w2.heap.size)), (12, S.pv), (13, I6 S.ps.length), (14, I6 i), (7, (Pv wl29.heap.size)), (26, p.rv), (27, I6 p.r.length), (28, I6 k), (5, .bool false), (29, .bool (decide ((↑k : Int) < ↑p.r.length))), (9, (Pv wl65.heap.size)), (10, (Po g2 (0 + x.2.toNat * 1))), (33, I6 x.1), (34, .bool true)] 8 0 hS (.c (by rw [h5.1]) (.c ((hB99).cellAt _ (bls_at h5.2)) .nil)) fun a hS => sge hK106 <| rgn 3 <| sd ww [.p, .p] [] [(56, (Po g2 (0 + x.2.toNat * 1)))] [] 2 1 hS .nil fun a hS => eff_store_own ww (r := 0) (b := g2) (off := 0 + x.2.toNat * 1) (u := Value.bool true) (xs := (bls m2)) hS (by kernel_rfl) hB99 (by omega) fun a ws115 hOs115 hEs115 hsz115 hS => ?_
      have hB120 := hB98.ext hEs115 (by simpa using hne)
      have hE122 : Ext [g1, g2] w53 ws115 := hE101.trans hEs115 (fun b hb => by simp at hb; subst hb; exact .inl (by simp))
      refine seg_end <| inBlock_normal <| hK73 _ _ <| rgn 2 <| sd ww [.as (I6 (↑k + 1)), .p] [_] [(28, I6 (↑k + 1))] [] 2 0 hS (as6 (↑k + 1)) fun a hS => seg_end ?_
      have hgs := hOs115
      rw [bls_set] at hgs
      rw [set_on h5.2] at hgs
      exact ⟨(k + 1, m1, m2, false), ⟨hS.kp [(2, (Pv w.heap.size)), (3, (Pv w2.heap.size)), (12, S.pv), (13, I6 S.ps.length), (14, I6 i), (7, (Pv wl29.heap.size)), (26, p.rv), (27, I6 p.r.length), (28, I6 (↑k + 1)), (5, .bool false)], hE122, by omega, hB120, hgs, (show RcI S i p k (b1, b2) (m1, m2) false from h5.1 ▸ hQ).pass hxk (by rw [h4]; exact h5.2)⟩, by simp only; omega⟩
     ·
      refine rgn 8 <| sg ww [.as (.bool false), .p, .p, .p, .ld (.bool false), .p, .p, .p] [Value.bool hr = .bool false, w92.cell? ⟨g2, 0 + x.2.toNat * 1, none⟩ = some (.bool false)] [(2, (Pv w.heap.size)), (3, (Pv w2.heap.size)), (12, S.pv), (13, I6 S.ps.length), (14, I6 i), (7, (Pv wl29.heap.size)), (26, p.rv), (27, I6 p.r.length), (28, I6 k), (5, .bool true), (29, .bool (decide ((↑k : Int) < ↑p.r.length))), (9, (Pv wl65.heap.size)), (10, (Po g2 (0 + x.2.toNat * 1))), (33, I6 x.1), (34, .bool true)] 8 0 hS (.c (by rw [h5.1]) (.c ((hB99).cellAt _ (bls_at h5.2)) .nil)) fun a hS => sge hK106 <| rgn 3 <| sd ww [.p, .p] [] [(56, (Po g2 (0 + x.2.toNat * 1)))] [] 2 1 hS .nil fun a hS => eff_store_own ww (r := 0) (b := g2) (off := 0 + x.2.toNat * 1) (u := Value.bool true) (xs := (bls m2)) hS (by kernel_rfl) hB99 (by omega) fun a ws123 hOs123 hEs123 hsz123 hS => ?_
      have hB128 := hB98.ext hEs123 (by simpa using hne)
      have hE130 : Ext [g1, g2] w53 ws123 := hE101.trans hEs123 (fun b hb => by simp at hb; subst hb; exact .inl (by simp))
      refine seg_end <| inBlock_normal <| hK73 _ _ <| rgn 2 <| sd ww [.as (I6 (↑k + 1)), .p] [_] [(28, I6 (↑k + 1))] [] 2 0 hS (as6 (↑k + 1)) fun a hS => seg_end ?_
      have hgs := hOs123
      rw [bls_set] at hgs
      exact ⟨(k + 1, m1, (m2.set x.2.toNat true), true), ⟨hS.kp [(2, (Pv w.heap.size)), (3, (Pv w2.heap.size)), (12, S.pv), (13, I6 S.ps.length), (14, I6 i), (7, (Pv wl29.heap.size)), (26, p.rv), (27, I6 p.r.length), (28, I6 (↑k + 1)), (5, .bool true)], hE130, by omega, hB128, hgs, hQ.mark (hQ.h.snd.m2 hpm hQ.l hxm h4 (by omega)) hQ.l (mu2 h5.2)⟩, by simp only; omega⟩
    ·
     refine rgn 2 <| sd ww [.p, .ld (I6 x.1)] [_] [(33, I6 x.1)] [] 2 0 hS (hB100.k 0 .nil) fun a hS => sge hK104 <| wpIn_block <| sdq 2 [.as (.bool false), .p] [Value.bool (((x.1 : Int) == 1)) = .bool false] [(34, .bool false)] [] hS (.c (as_eq_f (by omega)) .nil) fun a hS => ?_
     refine cond_f hS rfl ?_
     refine sdq 2 [.as (.bool false), .p] [Value.bool (((x.1 : Int) == 3)) = .bool false] [(41, .bool false)] [] hS (.c (as_eq_f (by omega)) .nil) fun a hS => ?_
     refine cond_f hS rfl ?_
     refine wpIn_exit <| inBlock_miss rfl <| then_exit <| inBlock_hit <| hK73 _ _ <| rgn 2 <| sg ww [.as (I6 (↑k + 1)), .p] [_] [(2, (Pv w.heap.size)), (3, (Pv w2.heap.size)), (12, S.pv), (13, I6 S.ps.length), (14, I6 i), (7, (Pv wl29.heap.size)), (26, p.rv), (27, I6 p.r.length), (28, I6 (↑k + 1)), (5, .bool hr), (29, .bool (decide ((↑k : Int) < ↑p.r.length))), (9, (Pv wl65.heap.size)), (10, .pointer none), (33, I6 x.1), (34, .bool false), (41, .bool false)] 2 0 hS (as6 (↑k + 1)) fun a hS => seg_end ?_
     exact ⟨(k + 1, m1, m2, hr), ⟨hS.kp [(2, (Pv w.heap.size)), (3, (Pv w2.heap.size)), (12, S.pv), (13, I6 S.ps.length), (14, I6 i), (7, (Pv wl29.heap.size)), (26, p.rv), (27, I6 p.r.length), (28, I6 (↑k + 1)), (5, .bool hr)], hE101, by omega, hB98, hB99, hQ.pass hxk (by rw [h3]; trivial)⟩, by simp only; omega⟩
    ·
     refine rgn 2 <| sd ww [.p, .ld (I6 x.1)] [_] [(33, I6 x.1)] [] 2 0 hS (hB100.k 0 .nil) fun a hS => sge hK104 <| wpIn_block <| sdq 2 [.as (.bool false), .p] [Value.bool (((x.1 : Int) == 1)) = .bool false] [(34, .bool false)] [] hS (.c (as_eq_f (by omega)) .nil) fun a hS => ?_
     refine cond_f hS rfl ?_
     refine sdq 2 [.as (.bool true), .p] [Value.bool (((x.1 : Int) == 3)) = .bool true] [(41, .bool true)] [] hS (.c (as_eq_t (by omega)) .nil) fun a hS => ?_
     refine cond_t hS rfl ?_
     refine rgn 6 <| sg ww [.p, .ld (Sl g1 S.ns.length c1), .p, .ld (I6 x.2), .run ((Po g1 (0 + x.2.toNat * 1))), .p] [_, _, Rv (Instr.indexAt 31 (Sl g1 S.ns.length c1) (I6 x.2)) ((Po g1 (0 + x.2.toNat * 1))) w92] [(2, (Pv w.heap.size)), (3, (Pv w2.heap.size)), (12, S.pv), (13, I6 S.ps.length), (14, I6 i), (7, (Pv wl29.heap.size)), (26, p.rv), (27, I6 p.r.length), (28, I6 k), (5, .bool hr), (29, .bool (decide ((↑k : Int) < ↑p.r.length))), (9, (Pv wl65.heap.size)), (10, (Po g1 (0 + x.2.toNat * 1))), (33, I6 x.1), (34, .bool false), (41, .bool true)] 6 0 hS (hB95.k 0 (hB100.k 1 (.c (ixz 4 1 x.2) .nil))) fun a hS => seg_end <| inBlock_normal <| hK103 _ _ <| sq fun K135 hK135 => ?_
     rcases (show (hr = true) ∨ (hr = false ∧ m1[x.2.toNat]? = some true) ∨ (hr = false ∧ m1[x.2.toNat]? = some false) from gr_cases hr (by omega)) with h5 | h5 | h5
     ·
      refine rgn 8 <| sd ww [.as (.bool true), .p, .no, .no, .no, .no, .p, .p] [Value.bool hr = .bool true] [(5, .bool true)] [] 8 0 hS (.c (by rw [h5]) .nil) fun a hS => sge hK135 <| rgn 3 <| sd ww [.p, .p] [] [(56, (Po g1 (0 + x.2.toNat * 1)))] [] 2 1 hS .nil fun a hS => eff_store_own ww (r := 0) (b := g1) (off := 0 + x.2.toNat * 1) (u := Value.bool true) (xs := (bls m1)) hS (by kernel_rfl) hB98 (by omega) fun a ws136 hOs136 hEs136 hsz136 hS => ?_
      have hB141 := hB99.ext hEs136 (by simpa using (Ne.symm hne))
      have hE143 : Ext [g1, g2] w53 ws136 := hE101.trans hEs136 (fun b hb => by simp at hb; subst hb; exact .inl (by simp))
      refine seg_end <| inBlock_normal <| hK73 _ _ <| rgn 2 <| sd ww [.as (I6 (↑k + 1)), .p] [_] [(28, I6 (↑k + 1))] [] 2 0 hS (as6 (↑k + 1)) fun a hS => seg_end ?_
      have hgs := hOs136
      rw [bls_set] at hgs
      exact ⟨(k + 1, (m1.set x.2.toNat true), m2, true), ⟨hS.kp [(2, (Pv w.heap.size)), (3, (Pv w2.heap.size)), (12, S.pv), (13, I6 S.ps.length), (14, I6 i), (7, (Pv wl29.heap.size)), (26, p.rv), (27, I6 p.r.length), (28, I6 (↑k + 1)), (5, .bool true)], hE143, by omega, hgs, hB141, (show RcI S i p k (b1, b2) (m1, m2) true from h5 ▸ hQ).mark' (hQ.h.snd.m1 hpm hQ.l hxm h4 (by omega)) ((on_set (by omega)).2 (.inr hQ.l)) (mu1' (by omega))⟩, by simp only; omega⟩
     ·
      refine rgn 8 <| sd ww [.as (.bool false), .p, .p, .p, .ld (.bool true), .p, .p, .p] [Value.bool hr = .bool false, w92.cell? ⟨g1, 0 + x.2.toNat * 1, none⟩ = some (.bool true)] [(5, .bool false)] [] 8 0 hS (.c (by rw [h5.1]) (.c ((hB98).cellAt _ (bls_at h5.2)) .nil)) fun a hS => sge hK135 <| rgn 3 <| sd ww [.p, .p] [] [(56, (Po g1 (0 + x.2.toNat * 1)))] [] 2 1 hS .nil fun a hS => eff_store_own ww (r := 0) (b := g1) (off := 0 + x.2.toNat * 1) (u := Value.bool true) (xs := (bls m1)) hS (by kernel_rfl) hB98 (by omega) fun a ws144 hOs144 hEs144 hsz144 hS => ?_
      have hB149 := hB99.ext hEs144 (by simpa using (Ne.symm hne))
      have hE151 : Ext [g1, g2] w53 ws144 := hE101.trans hEs144 (fun b hb => by simp at hb; subst hb; exact .inl (by simp))
      refine seg_end <| inBlock_normal <| hK73 _ _ <| rgn 2 <| sd ww [.as (I6 (↑k + 1)), .p] [_] [(28, I6 (↑k + 1))] [] 2 0 hS (as6 (↑k + 1)) fun a hS => seg_end ?_
      have hgs := hOs144
      rw [bls_set] at hgs
      rw [set_on h5.2] at hgs
      exact ⟨(k + 1, m1, m2, false), ⟨hS.kp [(2, (Pv w.heap.size)), (3, (Pv w2.heap.size)), (12, S.pv), (13, I6 S.ps.length), (14, I6 i), (7, (Pv wl29.heap.size)), (26, p.rv), (27, I6 p.r.length), (28, I6 (↑k + 1)), (5, .bool false)], hE151, by omega, hgs, hB149, (show RcI S i p k (b1, b2) (m1, m2) false from h5.1 ▸ hQ).pass hxk (by rw [h4]; exact h5.2)⟩, by simp only; omega⟩
     ·
      refine rgn 8 <| sd ww [.as (.bool false), .p, .p, .p, .ld (.bool false), .p, .p, .p] [Value.bool hr = .bool false, w92.cell? ⟨g1, 0 + x.2.toNat * 1, none⟩ = some (.bool false)] [(5, .bool true)] [] 8 0 hS (.c (by rw [h5.1]) (.c ((hB98).cellAt _ (bls_at h5.2)) .nil)) fun a hS => sge hK135 <| rgn 3 <| sd ww [.p, .p] [] [(56, (Po g1 (0 + x.2.toNat * 1)))] [] 2 1 hS .nil fun a hS => eff_store_own ww (r := 0) (b := g1) (off := 0 + x.2.toNat * 1) (u := Value.bool true) (xs := (bls m1)) hS (by kernel_rfl) hB98 (by omega) fun a ws152 hOs152 hEs152 hsz152 hS => ?_
      have hB157 := hB99.ext hEs152 (by simpa using (Ne.symm hne))
      have hE159 : Ext [g1, g2] w53 ws152 := hE101.trans hEs152 (fun b hb => by simp at hb; subst hb; exact .inl (by simp))
      refine seg_end <| inBlock_normal <| hK73 _ _ <| rgn 2 <| sd ww [.as (I6 (↑k + 1)), .p] [_] [(28, I6 (↑k + 1))] [] 2 0 hS (as6 (↑k + 1)) fun a hS => seg_end ?_
      have hgs := hOs152
      rw [bls_set] at hgs
      exact ⟨(k + 1, (m1.set x.2.toNat true), m2, true), ⟨hS.kp [(2, (Pv w.heap.size)), (3, (Pv w2.heap.size)), (12, S.pv), (13, I6 S.ps.length), (14, I6 i), (7, (Pv wl29.heap.size)), (26, p.rv), (27, I6 p.r.length), (28, I6 (↑k + 1)), (5, .bool true)], hE159, by omega, hgs, hB157, hQ.mark (hQ.h.snd.m1 hpm hQ.l hxm h4 (by omega)) ((on_set (by omega)).2 (.inr hQ.l)) (mu1 h5.2)⟩, by simp only; omega⟩
   ·
    replace hb72 := of_decide_eq_false hb72
    have hEl65 : Ext [g1, g2] w13 wl65 := hE61.trans hXl65 (fun b hbM => by simp at hbM; exact hbM.elim (fun hbM => by rw [hbM]; exact .inl (by simp)) fun hbM => by rw [hbM]; exact .inl (by simp))
    have hke : k = p.r.length := by omega
    refine xt2 <| inBlock_normal <| hK36 _ _ <| rgn 2 <| sd ww [.as (I6 (↑i + 1)), .p] [_] [(14, I6 (↑i + 1))] [] 2 0 hS (as6 (↑i + 1)) fun a hS => seg_end ?_
    exact ⟨(i + 1, m1, m2, hr), ⟨hS.kp [(2, (Pv w.heap.size)), (3, (Pv w2.heap.size)), (12, S.pv), (13, I6 S.ps.length), (14, I6 (↑i + 1)), (5, .bool hr)], hEl65, by omega, hg1b, hg2b, (show RcI S i p p.r.length (b1, b2) (m1, m2) hr from hke ▸ hQ).done hpi⟩, by simp only; omega⟩
  ·
   refine rgn 7 <| sd ww [.p, .ld (Sl g1 S.ns.length c1), .p, .ld (I6 p.l), .run ((Po g1 (0 + p.l.toNat * 1))), .ld (.bool false), .p] [_, _, Rv (Instr.indexAt 31 (Sl g1 S.ns.length c1) (I6 p.l)) ((Po g1 (0 + p.l.toNat * 1))) w53, w53.cell? ⟨g1, 0 + p.l.toNat * 1, none⟩ = some (.bool false)] [(24, .bool true)] [] 7 0 hS (hB56.k 0 (hB60.k 0 (.c (ixz 4 1 p.l) (.c ((hB58).cellAt _ (bls_at h1)) .nil)))) fun a hS => sge hK63 ?_
   refine cond_t hS rfl ?_
   refine wpIn_exit <| then_exit <| inBlock_hit <| hK36 _ _ <| rgn 2 <| sd ww [.as (I6 (↑i + 1)), .p] [_] [(14, I6 (↑i + 1))] [] 2 0 hS (as6 (↑i + 1)) fun a hS => seg_end ?_
   exact ⟨(i + 1, n1, n2, gr), ⟨hS.kp [(2, (Pv w.heap.size)), (3, (Pv w2.heap.size)), (12, S.pv), (13, I6 S.ps.length), (14, I6 (↑i + 1)), (5, .bool gr)], hE61, by omega, hB58, hB59, hP.pass hpi h1⟩, by simp only; omega⟩
 ·
  replace hb35 := of_decide_eq_false hb35
  have hEl29 : Ext [g1, g2] w wl29 := hE25.trans hXl29 (fun b hbM => by simp at hbM; exact hbM.elim (fun hbM => by rw [hbM]; exact .inl (by simp)) fun hbM => by rw [hbM]; exact .inl (by simp))
  have hie : i = S.ps.length := by omega
  refine xt2 <| hK27 _ _ <| sq fun K160 hK160 => rgn 4 <| sd ww [.lds [Sl g1 S.ns.length c1, Sl g2 S.lx.length c2], .p] [_, _] [(59, .agg #[Sl g1 S.ns.length c1, Sl g2 S.lx.length c2]), (60, .bool gr)] [] 2 2 hS (hB31.k 0 (hB31.k 1 .nil)) fun a hS => est 1 w2.heap.size 0 [Sl g1 S.ns.length c1, Sl g2 S.lx.length c2] hS hB32 fun a w161 hw162 hS => ?_
  have hB165 : Blk w161 w2.heap.size 152 (#[Sl g1 S.ns.length c1, Sl g2 S.lx.length c2]) := hB32.up hw162
  have hB166 := OwnR.at' hw162 (hg1a.updNe (Ne.symm hn16) _ _)
  have hB167 := OwnR.at' hw162 (hg2a.updNe (Ne.symm hn17) _ _)
  have hE168 := hEl29.ui hw162 hs24
  refine sd ww [.p] [] [(4, .bool gr)] [] 4 0 hS .nil fun a hS => sge hK160 <| wpIn_ret ?_
  refine retA2 hS Tryd.results103 (by kernel_rfl) (by kernel_rfl) rfl rfl hB165 ?_
  exact ⟨n1, n2, gr, rfl, hB166, hB167, hie ▸ hP, hE168⟩
theorem fixedR_any {w0 w : World} {S : Sp} (hG : SpOk w0 S) (hb : Ext [] w0 w) (hI : Ix S) {c1 c2 g1 g2 sb : Nat} {b1 b2 : List Bool} (hsb : Blk w sb 26 S.ca) (hg1 : OwnR w 4 1 g1 c1 S.ns.length (bls b1)) (hg2 : OwnR w 4 1 g2 c2 S.lx.length (bls b2)) (hne : g1 ≠ g2) (hn1 : w0.heap.size ≤ g1) (hn2 : w0.heap.size ≤ g2) (hs : RcS S (b1, b2)) :
  Calls Tryd.prog 102 #[.agg #[Sl g1 S.ns.length c1, Sl g2 S.lx.length c2], .func (.func 103) #[] #[(Pv sb)]] w fun e w' => ∃ x1 x2, e = .returned (.agg #[Sl g1 S.ns.length c1, Sl g2 S.lx.length c2]) ∧ OwnR w' 4 1 g1 c1 S.ns.length (bls x1) ∧ OwnR w' 4 1 g2 c2 S.lx.length (bls x2) ∧ IsRc S (x1, x2) ∧ Ext [g1, g2] w w' := by
 refine cbd 17 [(0, .agg #[Sl g1 S.ns.length c1, Sl g2 S.lx.length c2]), (1, .func (.func 103) #[] #[(Pv sb)])] Tryd.func102 rfl fun a hS => ?_
 have hE0 : Ext [g1, g2] w w := Ext.refl _ _
 refine sq fun K1 hK1 => rgn 2 <| ebx 1 #[Sl g1 S.ns.length c1, Sl g2 S.lx.length c2] 152 (some 2) hS fun a w2 hw3 hS => ?_
 have hn4 := Nat.ne_of_lt hsb.lt
 have hn5 := Nat.ne_of_lt hg1.lt
 have hn6 := Nat.ne_of_lt hg2.lt
 have hB7 := Blk.at' hw3 (hsb.alloc _)
 have hB8 := OwnR.at' hw3 (hg1.alloc _)
 have hB9 := OwnR.at' hw3 (hg2.alloc _)
 have hB10 := Blk.nw hw3
 have hs11 := hE0.size
 have hE12 := hE0.al hw3
 refine ebx 0 #[.slice none 0 0, .slice none 0 0] 152 (some 4) hS fun a w13 hw14 hS => ?_
 have hn16 := Nat.ne_of_lt hB8.lt
 have hn17 := Nat.ne_of_lt hB9.lt
 have hn18 := Nat.ne_of_lt hB10.lt
 have hB19 := Blk.at' hw14 (hB7.alloc _)
 have hB20 := OwnR.at' hw14 (hB8.alloc _)
 have hB21 := OwnR.at' hw14 (hB9.alloc _)
 have hB22 := Blk.at' hw14 (hB10.alloc _)
 have hB23 := Blk.nw hw14
 have hs24 := hE12.size
 have hE25 := hE12.al hw14
 refine sge hK1 <| wpIn_block ?_
 have hbl26 := (hb.trans hE25 (fun b hbM => by simp at hbM; exact hbM.elim (fun hbM => by rw [hbM]; exact .inr hn1) fun hbM => by rw [hbM]; exact .inr hn2))
 refine loop_ghost (fun ((n1, n2) : (List Bool) × (List Bool)) a' w' => St 17 [] [(2, (Pv w.heap.size)), (4, (Pv w2.heap.size)), (1, .func (.func 103) #[] #[(Pv sb)])] a' ∧ Ext [g1, g2, w.heap.size] w13 w' ∧ OwnR w' 4 1 g1 c1 S.ns.length (bls n1) ∧ OwnR w' 4 1 g2 c2 S.lx.length (bls n2) ∧ Blk w' (w.heap.size) 152 #[Sl g1 S.ns.length c1, Sl g2 S.lx.length c2] ∧ RcS S (n1, n2)) (fun ((n1, n2) : (List Bool) × (List Bool)) => rcMu (n1, n2)) (b1, b2) ⟨hS.keepTo [2, 4, 1] (by kernel_rfl), Ext.refl _ _, hB20, hB21, hB22, hs⟩ ?_
 rintro ⟨n1, n2⟩ a wl26 ⟨hS, hXl26, hg1a, hg2a, hbx, hs1⟩
 have hB27 := hB19.ext hXl26 (by simp; exact ⟨(OwnR.ne_type hB20 hB19 (by decide)).symm, (OwnR.ne_type hB21 hB19 (by decide)).symm, hn4⟩)
 have hB28 := hB23.ext hXl26 (by simp; exact ⟨(Ne.symm hn16), (Ne.symm hn17), (Ne.symm hn18)⟩)
 refine wpIn_block <| sq fun K29 hK29 => rgn 9 <| sd ww [.p, .lds [Sl g1 S.ns.length c1, Sl g2 S.lx.length c2]] [_, _] [(8, .func (.func 103) #[] #[(Pv sb)]), (9, .agg #[Sl g1 S.ns.length c1, Sl g2 S.lx.length c2])] [] 2 7 hS (hbx.k 0 (hbx.k 1 .nil)) fun a hS => eff_call ww (r := 6) (f := 103) (vs := [.agg #[Sl g1 S.ns.length c1, Sl g2 S.lx.length c2]]) (cap := #[(Pv sb)]) (d := (some 10)) hS (by kernel_rfl) Tryd.call103 #[.agg #[Sl g1 S.ns.length c1, Sl g2 S.lx.length c2], (Pv sb)] (by kernel_rfl) (reached1_any hG (hbl26.trans hXl26 (fun b hbM => by simp at hbM; exact hbM.elim (fun hbM => by rw [hbM]; exact .inr hn1) fun hbM => hbM.elim (fun hbM => by rw [hbM]; exact .inr hn2) fun hbM => by rw [hbM]; exact .inr (Nat.le_trans hb.size hs11))) hI hB27 hg1a hg2a hne hn1 hn2 hs1) ?_
 rintro _ wc30 ⟨x130, x230, gr30, rfl, hO30, hP30, hQ30, hEc30⟩
 refine ⟨_, rfl, fun a hS => ?_⟩
 have hB32 := hB28.ext hEc30 (by simp; exact ⟨(Ne.symm hn16), (Ne.symm hn17)⟩)
 have hB33 := hbx.ext hEc30 (by simp; exact ⟨(Ne.symm hn5), (Ne.symm hn6)⟩)
 have hE34 := hXl26.trans hEc30 (fun b hbM => by simp at hbM; exact hbM.elim (fun hbM => by rw [hbM]; exact .inl (by simp)) fun hbM => by rw [hbM]; exact .inl (by simp))
 refine sd ww [.p, .p, .p] [] [(11, .agg #[Sl g1 S.ns.length c1, Sl g2 S.lx.length c2]), (12, .bool gr30)] [] 6 3 hS .nil fun a hS => ebx 2 #[.slice none 0 0, .slice none 0 0] 152 (some 5) hS fun a w35 hw36 hS => ?_
 have hn38 := Nat.ne_of_lt hB32.lt
 have hn39 := Nat.ne_of_lt hO30.lt
 have hn40 := Nat.ne_of_lt hP30.lt
 have hn41 := Nat.ne_of_lt hB33.lt
 have hB43 := Blk.at' hw36 (hB32.alloc _)
 have hB44 := OwnR.at' hw36 (hO30.alloc _)
 have hB45 := OwnR.at' hw36 (hP30.alloc _)
 have hB46 := Blk.at' hw36 (hB33.alloc _)
 have hB47 := Blk.nw hw36
 have hs48 := hE34.size
 have hE49 := hE34.al hw36
 refine est 1 wc30.heap.size 0 [Sl g1 S.ns.length c1, Sl g2 S.lx.length c2] hS hB47 fun a w50 hw51 hS => ?_
 have hB53 := Blk.at' hw51 (hB43.updNe (Ne.symm hn38) _ _)
 have hB54 := OwnR.at' hw51 (hB44.updNe (Ne.symm hn39) _ _)
 have hB55 := OwnR.at' hw51 (hB45.updNe (Ne.symm hn40) _ _)
 have hB56 := Blk.at' hw51 (hB46.updNe (Ne.symm hn41) _ _)
 have hB57 : Blk w50 wc30.heap.size 152 (#[Sl g1 S.ns.length c1, Sl g2 S.lx.length c2]) := hB47.up hw51
 have hE58 := hE49.ui hw51 hs48
 refine sd ww [.p] [] [(6, .bool gr30)] [] 9 0 hS .nil fun a hS => sge hK29 <| sq fun K59 hK59 => sdq 2 [.p, .p] [] [(14, .bool (!gr30))] [] hS .nil fun a hS => ?_
 refine cond_b hS rfl (fun hb61 => ?_) (fun hb61 => ?_)
 ·
  replace hb61 := hb61
  have hgr : gr30 = false := by simpa using hb61
  have hEl26 : Ext [g1, g2] w w50 := hE25.trans hE58 (fun b hbM => by simp at hbM; exact hbM.elim (fun hbM => by rw [hbM]; exact .inl (by simp)) fun hbM => hbM.elim (fun hbM => by rw [hbM]; exact .inl (by simp)) fun hbM => by rw [hbM]; exact .inr hs11)
  refine sq fun K62 hK62 => rgn 2 <| sd ww [.lds [Sl g1 S.ns.length c1, Sl g2 S.lx.length c2]] [_, _] [(15, .agg #[Sl g1 S.ns.length c1, Sl g2 S.lx.length c2])] [] 1 1 hS (hB57.k 0 (hB57.k 1 .nil)) fun a hS => est 0 w2.heap.size 0 [Sl g1 S.ns.length c1, Sl g2 S.lx.length c2] hS hB53 fun a w63 hw64 hS => ?_
  have hB66 : Blk w63 w2.heap.size 152 (#[Sl g1 S.ns.length c1, Sl g2 S.lx.length c2]) := hB53.up hw64
  have hB67 := OwnR.at' hw64 (hB54.updNe (Ne.symm hn16) _ _)
  have hB68 := OwnR.at' hw64 (hB55.updNe (Ne.symm hn17) _ _)
  have hE71 := hEl26.ui hw64 hs24
  refine sge hK62 <| wpIn_ret <| then_ret <| inBlock_ret <| then_ret <| inBlock_ret ?_
  refine retA1 hS Tryd.results102 (by kernel_rfl) (by kernel_rfl) rfl hB66 ?_
  exact ⟨_, _, rfl, hB67, hB68, RcP.isRc hQ30.snd fun j hj => (hQ30.cl hgr).2 j hj, hE71⟩
 ·
  replace hb61 := hb61
  have hgr : gr30 = true := by simpa using hb61
  refine wpIn_skip <| hK59 _ _ <| rgn 2 <| sd ww [.lds [Sl g1 S.ns.length c1, Sl g2 S.lx.length c2]] [_, _] [(16, .agg #[Sl g1 S.ns.length c1, Sl g2 S.lx.length c2])] [] 1 1 hS (hB57.k 0 (hB57.k 1 .nil)) fun a hS => est 0 w.heap.size 0 [Sl g1 S.ns.length c1, Sl g2 S.lx.length c2] hS hB56 fun a w72 hw73 hS => ?_
  have hB76 := OwnR.at' hw73 (hB54.updNe (Ne.symm hn5) _ _)
  have hB77 := OwnR.at' hw73 (hB55.updNe (Ne.symm hn6) _ _)
  have hB78 : Blk w72 w.heap.size 152 (#[Sl g1 S.ns.length c1, Sl g2 S.lx.length c2]) := hB56.up hw73
  have hE80 : Ext [g1, g2, w.heap.size] w13 w72 := by rw [hw73]; exact hE58.updIn (.inl (by simp)) _ _
  refine seg_end <| inBlock_normal ?_
  exact ⟨(x130, x230), ⟨hS.kp [(2, (Pv w.heap.size)), (4, (Pv w2.heap.size)), (1, .func (.func 103) #[] #[(Pv sb)])], hE80, hB76, hB77, hB78, hQ30.snd⟩, hQ30.lt hgr⟩
theorem reached_any {w0 w : World} {S : Sp} (hG : SpOk w0 S) (hb : Ext [] w0 w) (hI : Ix S) :
  Calls Tryd.prog 78 #[.agg S.ca] w fun e w' => ∃ x, e = .returned (.agg #[I6 (rcE S x).1, I6 (rcE S x).2, .string ⟨#[]⟩]) ∧ IsRc S x ∧ Ext [] w w' := by
 have hlmax := hG.lmax
 have hnmax := hG.nmax
 have hpmax := hG.pmax
 have hst := hI.st
 refine cbd 55 [(0, .agg S.ca)] Tryd.func78 rfl fun a hS => ?_
 have hE0 : Ext [] w w := Ext.refl _ _
 refine sq fun K1 hK1 => rgn 2 <| ebx 1 S.ca 26 (some 1) hS fun a w2 hw3 hS => ?_
 have hB4 := Blk.nw hw3
 have hs5 := hE0.size
 have hE6 := hE0.al hw3
 refine ebx 0 #[I6 0, I6 0, .string ⟨#[]⟩] 34 (some 2) hS fun a w7 hw8 hS => ?_
 have hB10 := Blk.at' hw8 (hB4.alloc _)
 have hB11 := Blk.nw hw8
 have hs12 := hE6.size
 have hE13 := hE6.al hw8
 refine sge hK1 <| sq fun K14 hK14 => ?_
 refine region_set (G := Nat × Nat × Nat) ww [.q .p, .q (.ld (S.nv)), .q (.run (I6 S.ns.length)), .e, .q .p, .q (.ld (S.lv)), .q (.run (I6 S.lx.length)), .e, .q .p, .e, .e] [0, 1, 3, 7, 0, 16, 48, 112, 255, 0, 1023] [3, 7, 9, 10] (fun ⟨x1_3, x1_7, x1_9⟩ => ([(0, .agg S.ca), (1, (Pv w.heap.size)), (2, (Pv w2.heap.size)), (8, (Po w.heap.size 1)), (9, S.nv), (10, I6 S.ns.length), (11, Sn S x1_3), (12, (Pv w.heap.size)), (13, S.lv), (14, I6 S.lx.length), (15, Sl x1_7 S.lx.length S.lx.length), (16, .agg #[Sn S x1_3, Sl x1_7 S.lx.length S.lx.length]), (3, (Pv x1_9))] : Fm)) (fun D ⟨x1_3, x1_7, x1_9⟩ w' => Ext [] w7 w' ∧ (D 10 = false → (D 3 = true → (OwnR w' 4 1 x1_3 S.ns.length S.ns.length (List.replicate (S.ns.length * 1) (Value.bool false)) ∧ w7.heap.size ≤ x1_3)) ∧ (D 7 = true → (OwnR w' 4 1 x1_7 S.lx.length S.lx.length (List.replicate (S.lx.length * 1) (Value.bool false)) ∧ w7.heap.size ≤ x1_7)) ∧ (D 9 = true → (Blk w' x1_9 152 (#[.slice none 0 0, .slice none 0 0]) ∧ w7.heap.size ≤ x1_9)) ∧ (D 3 = true → D 7 = true → x1_3 ≠ x1_7) ∧ (D 3 = true → D 9 = true → x1_3 ≠ x1_9) ∧ (D 7 = true → D 9 = true → x1_7 ≠ x1_9) ∧ True) ∧ (D 10 = true → (OwnR w' 4 1 x1_3 S.ns.length S.ns.length (List.replicate (S.ns.length * 1) (Value.bool false)) ∧ w7.heap.size ≤ x1_3) ∧ (OwnR w' 4 1 x1_7 S.lx.length S.lx.length (List.replicate (S.lx.length * 1) (Value.bool false)) ∧ w7.heap.size ≤ x1_7) ∧ (Blk w' x1_9 152 (#[Sn S x1_3, Sl x1_7 S.lx.length S.lx.length]) ∧ w7.heap.size ≤ x1_9) ∧ x1_3 ≠ x1_7 ∧ x1_3 ≠ x1_9 ∧ x1_7 ≠ x1_9 ∧ True)) (fun ⟨x1_3, x1_7, x1_9⟩ w' => [(1, [w'.cell? ⟨w.heap.size, 1, none⟩ = some (S.nv)]), (2, [Rv (Builtin.len_ #[23] 3 #[S.nv]) (I6 S.ns.length) w']), (5, [w'.cell? ⟨w.heap.size, 0, none⟩ = some (S.lv)]), (6, [Rv (Builtin.len_ #[22] 3 #[S.lv]) (I6 S.lx.length) w'])]) (0, 0, 0) [0, 1, 2] [] hS (by kernel_rfl) (by kernel_rfl) (by kernel_rfl) (by kernel_rfl) (fun ⟨x1_3, x1_7, x1_9⟩ _ => by kernel_rfl) (by kernel_rfl) (by kernel_rfl) ⟨(Ext.refl _ _).drew, fun _ => ⟨fun h => (by cases h), fun h => (by cases h), fun h => (by cases h), fun h => (by cases h), fun h => (by cases h), fun h => (by cases h), trivial⟩, fun h => by cases h⟩ ?_ ?_ ?_
 ·rintro D ⟨x1_3, x1_7, x1_9⟩ w' ⟨hE, _, _⟩ xq hxq _ _
  refine AllI.mem ?_ xq hxq
  exact (.c (.c (((hB10.ext hE (by simp)) : Blk w' w.heap.size 26 (S.ca)).cell 1 rfl) .nil) (.c (.c (rlr 9 hG.names) .nil) (.c (.c (((hB10.ext hE (by simp)) : Blk w' w.heap.size 26 (S.ca)).cell 0 rfl) .nil) (.c (.c (rlr 100 hG.lex) .nil) .nil))))
 ·refine (.c ?_ (.c ?_ (.c ?_ (.c ?_ .nil))))
  ·rintro D ⟨x1_3, x1_7, x1_9⟩ w' ⟨hE, hA, hB⟩ hDi hdp hnd
   have hDf : D 10 = false := hnd 10 (by simp) (by decide)
   obtain ⟨hA3, hA7, hA9, hP3_7, hP3_9, hP7_9, _⟩ := hA hDf
   obtain ⟨wm, hrm, hOm, hEn, hsm⟩ := make_full (P := Tryd.prog) (w := w') (T := 31) (E := 4) (size := 1) (bytes := 1) (z := #[.bool false]) (Value.bool false) (l := S.ns.length) (by kernel_rfl) (by kernel_rfl) (by rfl) (by omega) (by omega) (by omega)
   refine upon_run (s := vS (Instr.makeSlice 31 (I6 S.ns.length) (I6 S.ns.length))) (d := (some 11)) (v := Sn S w'.heap.size) (by kernel_rfl) hrm ⟨(w'.heap.size, x1_7, x1_9), by kernel_rfl, by kernel_rfl, hE.trans0 hEn, fun _ => ⟨fun _ => ⟨hOm, hE.size⟩, fun h => ⟨(hA7 h).1.ext hEn (by simp), (hA7 h).2⟩, fun h => ⟨(hA9 h).1.ext hEn (by simp), (hA9 h).2⟩, fun _ h => (Nat.ne_of_gt (hA7 h).1.lt), fun _ h => (Nat.ne_of_gt (hA9 h).1.lt), hP7_9, trivial⟩, fun h => ?_⟩
   rw [show setS D 3 10 = D 10 from rfl, hDf] at h; cases h
  ·rintro D ⟨x1_3, x1_7, x1_9⟩ w' ⟨hE, hA, hB⟩ hDi hdp hnd
   have hDf : D 10 = false := hnd 10 (by simp) (by decide)
   obtain ⟨hA3, hA7, hA9, hP3_7, hP3_9, hP7_9, _⟩ := hA hDf
   obtain ⟨wm, hrm, hOm, hEn, hsm⟩ := make_full (P := Tryd.prog) (w := w') (T := 31) (E := 4) (size := 1) (bytes := 1) (z := #[.bool false]) (Value.bool false) (l := S.lx.length) (by kernel_rfl) (by kernel_rfl) (by rfl) (by omega) (by omega) (by omega)
   refine upon_run (s := vS (Instr.makeSlice 31 (I6 S.lx.length) (I6 S.lx.length))) (d := (some 15)) (v := Sl w'.heap.size S.lx.length S.lx.length) (by kernel_rfl) hrm ⟨(x1_3, w'.heap.size, x1_9), by kernel_rfl, by kernel_rfl, hE.trans0 hEn, fun _ => ⟨fun h => ⟨(hA3 h).1.ext hEn (by simp), (hA3 h).2⟩, fun _ => ⟨hOm, hE.size⟩, fun h => ⟨(hA9 h).1.ext hEn (by simp), (hA9 h).2⟩, fun h _ => (Nat.ne_of_lt (hA3 h).1.lt), hP3_9, fun _ h => (Nat.ne_of_gt (hA9 h).1.lt), trivial⟩, fun h => ?_⟩
   rw [show setS D 7 10 = D 10 from rfl, hDf] at h; cases h
  ·rintro D ⟨x1_3, x1_7, x1_9⟩ w' ⟨hE, hA, hB⟩ hDi hdp hnd
   have hDf : D 10 = false := hnd 10 (by simp) (by decide)
   obtain ⟨hA3, hA7, hA9, hP3_7, hP3_9, hP7_9, _⟩ := hA hDf
   have hEn : Ext [] w' (w'.alloc (.cells #[.slice none 0 0, .slice none 0 0] 152)) := (Ext.refl _ _).alloc _
   refine upon_box (nb := w'.heap.size) (cs := #[.slice none 0 0, .slice none 0 0]) (T := 152) (d := (some 3)) (by kernel_rfl) rfl ⟨(x1_3, x1_7, w'.heap.size), by kernel_rfl, by kernel_rfl, hE.trans0 hEn, fun _ => ⟨fun h => ⟨(hA3 h).1.ext hEn (by simp), (hA3 h).2⟩, fun h => ⟨(hA7 h).1.ext hEn (by simp), (hA7 h).2⟩, fun _ => ⟨Blk.new _ _ _, hE.size⟩, hP3_7, fun h _ => (Nat.ne_of_lt (hA3 h).1.lt), fun h _ => (Nat.ne_of_lt (hA7 h).1.lt), trivial⟩, fun h => ?_⟩
   rw [show setS D 9 10 = D 10 from rfl, hDf] at h; cases h
  ·rintro D ⟨x1_3, x1_7, x1_9⟩ w' ⟨hE, hA, hB⟩ hDi hdp hnd
   obtain ⟨hA3, hA7, hA9, hP3_7, hP3_9, hP7_9, _⟩ := hA hDi
   obtain ⟨hf3, hs3⟩ := hA3 (hdp 3 (by simp) (by decide))
   obtain ⟨hf7, hs7⟩ := hA7 (hdp 7 (by simp) (by decide))
   obtain ⟨hf9, hs9⟩ := hA9 (hdp 9 (by simp) (by decide))
   have hq3_7 := hP3_7 (hdp 3 (by simp) (by decide)) (hdp 7 (by simp) (by decide))
   have hq3_9 := hP3_9 (hdp 3 (by simp) (by decide)) (hdp 9 (by simp) (by decide))
   have hq7_9 := hP7_9 (hdp 7 (by simp) (by decide)) (hdp 9 (by simp) (by decide))
   refine upon_store (b := x1_9) (off := 0) (vs := [Sn S x1_3, Sl x1_7 S.lx.length S.lx.length]) (by kernel_rfl) hf9 (by simp) ⟨(x1_3, x1_7, x1_9), by kernel_rfl, by kernel_rfl, hE.updIn (.inr hs9) _ _, fun h => ?_, fun _ => ⟨⟨hf3.updNe (hq3_9.symm) _ _, hs3⟩, ⟨hf7.updNe (hq7_9.symm) _ _, hs7⟩, ⟨hf9.upd _ _, hs9⟩, hq3_7, hq3_9, hq7_9, trivial⟩⟩
   rw [setS_self] at h; cases h
 rintro D ⟨x1_3, x1_7, x1_9⟩ a wz15 hS hall ⟨hEz15, _, hB⟩
 obtain ⟨⟨hz15_3, hy15_3⟩, ⟨hz15_7, hy15_7⟩, ⟨hz15_9, hy15_9⟩, hx15_3_7, hx15_3_9, hx15_7_9, _⟩ := hB (hall 10 (by simp))
 have hB16 := hB10.ext hEz15 (by simp)
 have hB17 := hB11.ext hEz15 (by simp)
 have hw15_3 : w.heap.size ≤ x1_3 := Nat.le_trans hE13.size hy15_3
 have hw15_7 : w.heap.size ≤ x1_7 := Nat.le_trans hE13.size hy15_7
 have hw15_9 : w.heap.size ≤ x1_9 := Nat.le_trans hE13.size hy15_9
 have hE18 := hE13.trans0 hEz15
 replace hS := hS.kp [(0, .agg S.ca), (1, (Pv w.heap.size)), (2, (Pv w2.heap.size)), (3, (Pv x1_9))]
 refine hK14 _ _ <| sq fun K19 hK19 => rgn 6 <| sd ww [.p, .ld (Sn S x1_3), .p, .ld (I6 S.st), .run ((Po x1_3 (0 + S.st.toNat * 1)))] [_, _, Rv (Instr.indexAt 31 (Sn S x1_3) (I6 S.st)) ((Po x1_3 (0 + S.st.toNat * 1))) wz15] [(21, (Po x1_3 (0 + S.st.toNat * 1)))] [] 5 1 hS (hz15_9.k 0 (hB16.k 2 (.c (ixz 4 1 S.st) .nil))) fun a hS => eff_store_own ww (r := 0) (b := x1_3) (off := 0 + S.st.toNat * 1) (u := Value.bool true) (xs := (List.replicate (S.ns.length * 1) (Value.bool false))) hS (by kernel_rfl) hz15_3 (by omega) fun a ws20 hOs20 hEs20 hsz20 hS => ?_
 have hB21 := hB16.ext hEs20 (by simpa using (Nat.ne_of_lt (Nat.lt_of_lt_of_le hB10.lt hy15_3)))
 have hB22 := hB17.ext hEs20 (by simpa using (Nat.ne_of_lt (Nat.lt_of_lt_of_le hB11.lt hy15_3)))
 have hB23 := hz15_7.ext hEs20 (by simpa using (Ne.symm hx15_3_7))
 have hB24 := hz15_9.ext hEs20 (by simpa using (Ne.symm hx15_3_9))
 have hE25 : Ext [] w ws20 := hE18.trans hEs20 (fun b hb => by simp at hb; subst hb; exact .inr hw15_3)
 refine sge hK19 <| sq fun K26 hK26 => rgn 5 <| sd ww [.lds [Sn S x1_3, Sl x1_7 S.lx.length S.lx.length], .p] [_, _] [(22, .agg #[Sn S x1_3, Sl x1_7 S.lx.length S.lx.length]), (23, .func (.func 103) #[] #[(Pv w.heap.size)])] [] 2 3 hS (hB24.k 0 (hB24.k 1 .nil)) fun a hS => ?_
 have hg1 := hOs20
 rw [Nat.mul_one, bls_rep, bls_set] at hg1
 have hg2 := hB23
 rw [Nat.mul_one, bls_rep] at hg2
 refine ecl 2 (some 24) hS Tryd.call102 #[.agg #[Sn S x1_3, Sl x1_7 S.lx.length S.lx.length], .func (.func 103) #[] #[(Pv w.heap.size)]] (fixedR_any hG (hb.trans0 hE25) hI hB21 hg1 hg2 hx15_3_7 (Nat.le_trans hb.size hw15_3) (Nat.le_trans hb.size hw15_7) (.start hst)) ?_
 rintro _ wc27 ⟨x127, x227, rfl, hO27, hP27, hQ27, hEc27⟩
 refine ⟨_, rfl, fun a hS => ?_⟩
 have hB28 := hB21.ext hEc27 (by simp; exact ⟨(Nat.ne_of_lt (Nat.lt_of_lt_of_le hB10.lt hy15_3)), (Nat.ne_of_lt (Nat.lt_of_lt_of_le hB10.lt hy15_7))⟩)
 have hB29 := hB22.ext hEc27 (by simp; exact ⟨(Nat.ne_of_lt (Nat.lt_of_lt_of_le hB11.lt hy15_3)), (Nat.ne_of_lt (Nat.lt_of_lt_of_le hB11.lt hy15_7))⟩)
 have hE31 := hE25.trans hEc27 (fun b hbM => by simp at hbM; exact hbM.elim (fun hbM => by rw [hbM]; exact .inr hw15_3) fun hbM => by rw [hbM]; exact .inr hw15_7)
 refine ebx 1 #[.slice none 0 0, .slice none 0 0] 152 (some 4) hS fun a w32 hw33 hS => ?_
 have hn34 := Nat.ne_of_lt hB28.lt
 have hn35 := Nat.ne_of_lt hB29.lt
 have hn36 := Nat.ne_of_lt hP27.lt
 have hn38 := Nat.ne_of_lt hO27.lt
 have hB39 := Blk.at' hw33 (hB28.alloc _)
 have hB40 := Blk.at' hw33 (hB29.alloc _)
 have hB41 := OwnR.at' hw33 (hP27.alloc _)
 have hB43 := OwnR.at' hw33 (hO27.alloc _)
 have hB44 := Blk.nw hw33
 have hs45 := hE31.size
 have hE46 := hE31.al hw33
 refine est 0 wc27.heap.size 0 [Sn S x1_3, Sl x1_7 S.lx.length S.lx.length] hS hB44 fun a w47 hw48 hS => ?_
 have hB49 := Blk.at' hw48 (hB39.updNe (Ne.symm hn34) _ _)
 have hB50 := Blk.at' hw48 (hB40.updNe (Ne.symm hn35) _ _)
 have hB51 := OwnR.at' hw48 (hB41.updNe (Ne.symm hn36) _ _)
 have hB53 := OwnR.at' hw48 (hB43.updNe (Ne.symm hn38) _ _)
 have hB54 : Blk w47 wc27.heap.size 152 (#[Sn S x1_3, Sl x1_7 S.lx.length S.lx.length]) := hB44.up hw48
 have hE55 := hE46.ui hw48 hs45
 refine sge hK26 <| sq fun K56 hK56 => sq fun K57 hK57 => rgn 4 <| sd ww [.p, .ld (Sn S x1_3)] [_] [(26, Sn S x1_3)] [] 2 2 hS (hB54.k 0 .nil) fun a hS => ecl 1 (some 27) hS Tryd.call79 #[Sn S x1_3, .bool false] (indexF_any hB53) ?_
 rintro _ wc58 ⟨rfl, hEc58⟩
 refine ⟨_, rfl, fun a hS => ?_⟩
 have hB59 := hB49.ext hEc58 (by simp)
 have hB60 := hB50.ext hEc58 (by simp)
 have hB61 := hB51.ext hEc58 (by simp)
 have hB64 := hB54.ext hEc58 (by simp)
 have hE65 := hE55.trans0 hEc58
 refine sd ww [.p] [] [(5, I6 (fF x127 0))] [] 4 0 hS .nil fun a hS => sge hK57 <| sdq 2 [.p, .p] [] [(29, .bool (decide ((fF x127 0 : Int) ≥ 0)))] [] hS .nil fun a hS => ?_
 refine cond_b hS rfl (fun hb67 => ?_) (fun hb67 => ?_)
 ·
  replace hb67 := of_decide_eq_true hb67
  refine sq fun K68 hK68 => rgn 3 <| sd ww [.p, .p] [] [(31, .agg #[I6 72, I6 (fF x127 0), .string ⟨#[]⟩])] [] 2 1 hS .nil fun a hS => est 0 w2.heap.size 0 [I6 72, I6 (fF x127 0), .string ⟨#[]⟩] hS hB60 fun a w69 hw70 hS => ?_
  have hB72 : Blk w69 w2.heap.size 34 (#[I6 72, I6 (fF x127 0), .string ⟨#[]⟩]) := hB60.up hw70
  have hE77 := hE65.ui hw70 hs12
  refine sge hK68 <| wpIn_ret <| then_ret ?_
  refine retA1 hS Tryd.results78 (by kernel_rfl) (by kernel_rfl) rfl hB72 ?_
  exact ⟨(x127, x227), by rw [show rcE S (x127, x227) = (72, fF x127 0) from if_pos (by simpa using hb67)], hQ27, hE77⟩
 ·
  replace hb67 := of_decide_eq_false hb67
  have hrc : rcE S (x127, x227) = fR x227 S.lx 0 := if_neg (by simpa using hb67)
  refine wpIn_skip <| hK56 _ _ <| sq fun K78 hK78 => sdq 4 [.p, .ld (Sl x1_7 S.lx.length S.lx.length), .p, .p] [_] [(33, Sl x1_7 S.lx.length S.lx.length), (34, I6 S.lx.length), (35, I6 0)] [] hS (hB64.k 1 .nil) fun a hS => wpIn_block ?_
  have hbl80 := (hb.trans0 hE65)
  refine loop_ghost (fun (i : Nat) a' w' => St 55 [] [(1, (Pv w.heap.size)), (2, (Pv w2.heap.size)), (33, Sl x1_7 S.lx.length S.lx.length), (34, I6 S.lx.length), (35, I6 i)] a' ∧ Ext [] wc58 w' ∧ i ≤ S.lx.length ∧ fR x227 S.lx 0 = fR (x227.drop i) (S.lx.drop i) i) (fun (i : Nat) => S.lx.length - i) 0 ⟨hS.keepTo [1, 2, 33, 34, 35] (by kernel_rfl), Ext.refl _ _, by omega, rfl⟩ ?_
  rintro i a wl80 ⟨hS, hXl80, hi, ha⟩
  have hB81 := hB59.ext hXl80 (by simp)
  have hB82 := hB60.ext hXl80 (by simp)
  have hB83 := hB61.ext hXl80 (by simp)
  have hl2 : x227.length = S.lx.length := hQ27.l2
  refine sdq 1 [.p] [] [(36, .bool (decide ((↑i : Int) < ↑S.lx.length)))] [] hS .nil fun a hS => sq fun K88 hK88 => ?_
  refine cond_b hS rfl (fun hb89 => ?_) (fun hb89 => ?_)
  ·
   replace hb89 := of_decide_eq_true hb89
   obtain ⟨lr, hlr⟩ : ∃ lr, S.lx[i]? = some lr := gE
   refine wpIn_skip <| hK88 _ _ <| sq fun K90 hK90 => wpIn_block <| sq fun K91 hK91 => ?_
   rcases (show (x227[i]? = some true) ∨ (x227[i]? = some false) from bool_cases (by omega)) with h1 | h1
   ·
    have hst := ha
    rw [fR_step h1 hlr] at hst
    refine rgn 5 <| sd ww [.p, .run ((Po x1_7 (0 + i * 1))), .ld (.bool true), .p, .p] [Rv (Instr.indexAt 31 (Sl x1_7 S.lx.length S.lx.length) (I6 i)) ((Po x1_7 (0 + i * 1))) wl80, wl80.cell? ⟨x1_7, 0 + i * 1, none⟩ = some (.bool true)] [(6, I6 i), (7, .bool true)] [] 5 0 hS (.c (ixs 4 1 i) (.c ((hB83).cellAt _ (bls_at h1)) .nil)) fun a hS => sge hK91 <| sdq 11 [.p, .p, .p, .no, .no, .no, .no, .no, .no, .no, .p] [] [(50, .bool false)] [] hS .nil fun a hS => ?_
    refine cond_f hS rfl ?_
    refine wpIn_skip <| inBlock_normal <| hK90 _ _ <| rgn 2 <| sd ww [.as (I6 (↑i + 1)), .p] [_] [(35, I6 (↑i + 1))] [] 2 0 hS (as6 (↑i + 1)) fun a hS => seg_end ?_
    exact ⟨i + 1, ⟨hS.kp [(1, (Pv w.heap.size)), (2, (Pv w2.heap.size)), (33, Sl x1_7 S.lx.length S.lx.length), (34, I6 S.lx.length), (35, I6 (↑i + 1))], hXl80, by omega, by rw [hst]; simp⟩, by omega⟩
   ·
    have hst := ha
    rw [fR_step h1 hlr] at hst
    refine rgn 5 <| sd ww [.p, .run ((Po x1_7 (0 + i * 1))), .ld (.bool false), .p, .p] [Rv (Instr.indexAt 31 (Sl x1_7 S.lx.length S.lx.length) (I6 i)) ((Po x1_7 (0 + i * 1))) wl80, wl80.cell? ⟨x1_7, 0 + i * 1, none⟩ = some (.bool false)] [(6, I6 i), (7, .bool false)] [] 5 0 hS (.c (ixs 4 1 i) (.c ((hB83).cellAt _ (bls_at h1)) .nil)) fun a hS => sge hK91 <| sdq 11 [.p, .p, .p, .p, .ld (S.lv), .p, .run ((Po (bof S.lv) (oof S.lv + i * 8))), .p, .ld (.bool lr.tr), .p, .p] [_, Rv (Instr.indexAt 22 (S.lv) (I6 i)) ((Po (bof S.lv) (oof S.lv + i * 8))) wl80, wl80.cell? ⟨bof S.lv, oof S.lv + i * 8 + 1, none⟩ = some (.bool lr.tr)] [(50, .bool (!lr.tr))] [] hS (hB81.k 0 (.c (ixr 100 i hG.lex) (.c ((hG.lex.ext0 (hbl80.trans0 hXl80)).cellAt (i * 8 + 1) (by omega) (lcells_at S.lx i 1 lr hlr (by omega))) .nil))) fun a hS => ?_
    refine cond_b hS rfl (fun hb94 => ?_) (fun hb94 => ?_)
    ·
     replace hb94 := hb94
     have htr : lr.tr = false := by simpa using hb94
     have hEl80 : Ext [] w wl80 := hE65.trans0 hXl80
     refine sq fun K95 hK95 => rgn 3 <| sd ww [.p, .p] [] [(52, .agg #[I6 72, I6 i, .string ⟨#[]⟩])] [] 2 1 hS .nil fun a hS => est 0 w2.heap.size 0 [I6 72, I6 i, .string ⟨#[]⟩] hS hB82 fun a w96 hw97 hS => ?_
     have hB99 : Blk w96 w2.heap.size 34 (#[I6 72, I6 i, .string ⟨#[]⟩]) := hB82.up hw97
     have hE104 := hEl80.ui hw97 hs12
     refine sge hK95 <| wpIn_ret <| inBlock_ret <| then_ret <| then_ret <| inBlock_ret <| then_ret ?_
     refine retA1 hS Tryd.results78 (by kernel_rfl) (by kernel_rfl) rfl hB99 ?_
     exact ⟨(x127, x227), by rw [show rcE S (x127, x227) = (72, (i : Int)) from by rw [hrc, hst, htr]; simp], hQ27, hE104⟩
    ·
     replace hb94 := hb94
     have htr : lr.tr = true := by simpa using hb94
     refine wpIn_skip <| inBlock_normal <| hK90 _ _ <| rgn 2 <| sd ww [.as (I6 (↑i + 1)), .p] [_] [(35, I6 (↑i + 1))] [] 2 0 hS (as6 (↑i + 1)) fun a hS => seg_end ?_
     exact ⟨i + 1, ⟨hS.kp [(1, (Pv w.heap.size)), (2, (Pv w2.heap.size)), (33, Sl x1_7 S.lx.length S.lx.length), (34, I6 S.lx.length), (35, I6 (↑i + 1))], hXl80, by omega, by rw [hst, htr]; simp⟩, by omega⟩
  ·
   replace hb89 := of_decide_eq_false hb89
   have hEl80 : Ext [] w wl80 := hE65.trans0 hXl80
   rw [List.drop_eq_nil_of_le (by omega)] at ha
   refine xt2 <| hK78 _ _ <| sq fun K105 hK105 => rgn 2 <| sd ww [.p] [] [(54, .agg #[I6 0, I6 0, .string ⟨#[]⟩])] [] 1 1 hS .nil fun a hS => est 0 w2.heap.size 0 [I6 0, I6 0, .string ⟨#[]⟩] hS hB82 fun a w106 hw107 hS => ?_
   have hB109 : Blk w106 w2.heap.size 34 (#[I6 0, I6 0, .string ⟨#[]⟩]) := hB82.up hw107
   have hE114 := hEl80.ui hw107 hs12
   refine sge hK105 <| wpIn_ret ?_
   refine retA1 hS Tryd.results78 (by kernel_rfl) (by kernel_rfl) rfl hB109 ?_
   exact ⟨(x127, x227), by rw [show rcE S (x127, x227) = (0, 0) from by rw [hrc, ha]; rfl], hQ27, hE114⟩
end Go.Proofs.YtkkpghlcmcaoiaaDoor
