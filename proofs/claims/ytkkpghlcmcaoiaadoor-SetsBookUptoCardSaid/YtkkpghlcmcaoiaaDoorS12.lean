import Derived.Test.YtkkpghlcmcaoiaaDoorS11
import Derived.Test.YtkkpghlcmcaoiaaDoorSt7
import Derived.Test.YtkkpghlcmcaoiaaDoorVd
namespace Go.Proofs.YtkkpghlcmcaoiaaDoor
open Go.Vc Go.Gm
set_option maxHeartbeats 1000000 in
theorem follow1_any {w0 w : World} {S : Sp} (hG : SpOk w0 S) (hb : Ext [] w0 w) (hI : Ix S) (hlx : S.lx.length ≤ 64) {cw gw gb ge gf tb sb : Nat} {es : List Bool} {ff fs : List Se} (hsb : Blk w sb 26 S.ca) (htb : Blk w tb 106 #[Pv gb]) (hK : Kn S w gb ge gf es ff) (hfs : OwnR w 110 2 gw cw S.ns.length (secs fs)) (hgw : gf ≠ gw) (hgn : w0.heap.size ≤ gw) (hs : FoS S fs) :
  Calls Tryd.prog 57 #[Sl gw S.ns.length cw, (Pv sb), (Pv tb)] w fun e w' => ∃ fs' gr, e = .returned (.tuple #[Sl gw S.ns.length cw, .bool gr]) ∧ OwnR w' 110 2 gw cw S.ns.length (secs fs') ∧ FoP S es ff S.ps.length fs fs' gr ∧ Ext [gw] w w' := by
 have hlmax := hG.lmax
 have hnmax := hG.nmax
 have hpmax := hG.pmax
 refine cbd 73 [(0, Sl gw S.ns.length cw), (1, (Pv sb)), (2, (Pv tb))] Tryd.func57 rfl fun a hS => ?_
 have hE0 : Ext [gw] w w := Ext.refl _ _
 refine sdq 2 [.p, .p] [] [(4, .slice none 0 0), (5, .bool false)] [] hS .nil fun a hS => sdq 1 [.p] [] [(6, .bool false)] [] hS .nil fun a hS => sq fun K3 hK3 => sdq 4 [.p, .ld (S.pv), .run (I6 S.ps.length), .p] [_, Rv (Builtin.len_ #[24] 3 #[S.pv]) (I6 S.ps.length) w] [(15, S.pv), (16, I6 S.ps.length), (17, I6 0)] [] hS (hsb.k 3 (.c (rlr 73 hG.prods) .nil)) fun a hS => wpIn_block ?_
 have hbl5 := (hb.t1 hE0 hgn)
 refine loop_ghost (fun ((i, fs1, gr) : Nat × (List Se) × Bool) a' w' => St 73 [] [(0, Sl gw S.ns.length cw), (1, (Pv sb)), (2, (Pv tb)), (15, S.pv), (16, I6 S.ps.length), (17, I6 i), (6, .bool gr)] a' ∧ Ext [gw] w w' ∧ i ≤ S.ps.length ∧ OwnR w' 110 2 gw cw S.ns.length (secs fs1) ∧ FoP S es ff i fs fs1 gr) (fun ((i, fs1, gr) : Nat × (List Se) × Bool) => S.ps.length - i) (0, fs, false) ⟨hS.keepTo [0, 1, 2, 15, 16, 17, 6] (by kernel_rfl), Ext.refl _ _, by omega, hfs, .start hs⟩ ?_
 rintro ⟨i, fs1, gr⟩ a wl5 ⟨hS, hXl5, hi, hg1, hP⟩
 have hB7 := htb.ext hXl5 (by simpa using (OwnR.ne_type hfs htb (by decide)).symm)
 have hB8 := hK.gb.ext hXl5 (by simpa using (OwnR.ne_type hfs hK.gb (by decide)).symm)
 have hB9 := hK.re.ext hXl5 (by simpa using (OwnR.neR hK.re hfs (by decide)))
 have hB10 := hK.rf.ext hXl5 (by simpa using hgw)
 refine sdq 1 [.p] [] [(18, .bool (decide ((↑i : Int) < ↑S.ps.length)))] [] hS .nil fun a hS => sq fun K12 hK12 => ?_
 refine cond_b hS rfl (fun hb13 => ?_) (fun hb13 => ?_)
 ·
  replace hb13 := of_decide_eq_true hb13
  obtain ⟨p, hpi⟩ : ∃ p, S.ps[i]? = some p := gE
  have hpm := List.mem_of_getElem? hpi
  have hrm := hG.rmax p hpm
  have hpl := hI.pl hpm
  refine wpIn_skip <| hK12 _ _ <| sq fun K14 hK14 => wpIn_block <| sq fun K15 hK15 => rgn 4 <| sd ww [.run ((Po (bof S.pv) (oof S.pv + i * 2))), .lds [I6 p.l, p.rv]] [Rv (Instr.indexAt 24 (S.pv) (I6 i)) ((Po (bof S.pv) (oof S.pv + i * 2))) wl5, wl5.cell? ⟨bof S.pv, oof S.pv + i * 2, none⟩ = some (I6 p.l), wl5.cell? ⟨bof S.pv, oof S.pv + i * 2 + 1, none⟩ = some (p.rv)] [(20, .agg #[I6 p.l, p.rv])] [] 2 2 hS (.c (ixr 73 i hG.prods) (.c ((hG.prods.ext0 (hbl5.t1 hXl5 hgn)).cellAt (i * 2 + 0) (by omega) (pcells_at S.ps i 0 p hpi (by omega))) (.c ((hG.prods.ext0 (hbl5.t1 hXl5 hgn)).cellAt (i * 2 + 1) (by omega) (pcells_at S.ps i 1 p hpi (by omega))) .nil))) fun a hS => ebx 1 #[I6 0, .slice none 0 0] 73 (some 8) hS fun a w16 hw17 hS => ?_
  have hn19 := Nat.ne_of_lt hB7.lt
  have hn20 := Nat.ne_of_lt hB8.lt
  have hn21 := Nat.ne_of_lt hB9.lt
  have hn22 := Nat.ne_of_lt hB10.lt
  have hn23 := Nat.ne_of_lt hg1.lt
  have hB25 := Blk.at' hw17 (hB7.alloc _)
  have hB26 := Blk.at' hw17 (hB8.alloc _)
  have hB27 := OwnR.at' hw17 (hB9.alloc _)
  have hB28 := OwnR.at' hw17 (hB10.alloc _)
  have hB29 := OwnR.at' hw17 (hg1.alloc _)
  have hB30 := Blk.nw hw17
  have hs31 := hXl5.size
  have hE32 := hXl5.al hw17
  refine est 0 wl5.heap.size 0 [I6 p.l, p.rv] hS hB30 fun a w33 hw34 hS => ?_
  have hB36 := Blk.at' hw34 (hB25.updNe (Ne.symm hn19) _ _)
  have hB37 := Blk.at' hw34 (hB26.updNe (Ne.symm hn20) _ _)
  have hB38 := OwnR.at' hw34 (hB27.updNe (Ne.symm hn21) _ _)
  have hB39 := OwnR.at' hw34 (hB28.updNe (Ne.symm hn22) _ _)
  have hB40 := OwnR.at' hw34 (hB29.updNe (Ne.symm hn23) _ _)
  have hB41 : Blk w33 wl5.heap.size 73 (#[I6 p.l, p.rv]) := hB30.up hw34
  have hE42 := hE32.ui hw34 hs31
  refine sge hK15 <| sdq 4 [.p, .ld (p.rv), .run (I6 p.r.length), .p] [_, Rv (Builtin.len_ #[71] 3 #[p.rv]) (I6 p.r.length) w33] [(22, p.rv), (23, I6 p.r.length), (24, I6 0)] [] hS (hB41.k 1 (.c (rlr 61 (hG.right p hpm)) .nil)) fun a hS => wpIn_block ?_
  have hbl44 : Ext [] w0 w33 := (hbl5.t1 hE42 hgn)
  refine loop_ghost (fun ((k, fs2, hr) : Nat × (List Se) × Bool) a' w' => St 73 [] [(0, Sl gw S.ns.length cw), (1, (Pv sb)), (2, (Pv tb)), (15, S.pv), (16, I6 S.ps.length), (17, I6 i), (8, (Pv wl5.heap.size)), (22, p.rv), (23, I6 p.r.length), (24, I6 k), (6, .bool hr)] a' ∧ Ext [gw] w33 w' ∧ k ≤ p.r.length ∧ OwnR w' 110 2 gw cw S.ns.length (secs fs2) ∧ FoI S es ff i p k fs fs2 hr) (fun ((k, fs2, hr) : Nat × (List Se) × Bool) => p.r.length - k) (0, fs1, gr) ⟨hS.keepTo [0, 1, 2, 15, 16, 17, 8, 22, 23, 24, 6] (by kernel_rfl), Ext.refl _ _, by omega, hB40, .start hP⟩ ?_
  rintro ⟨k, fs2, hr⟩ a wl44 ⟨hS, hXl44, hk, hg2, hQ⟩
  have hB46 := hB36.ext hXl44 (by simpa using (OwnR.ne_type hB40 hB36 (by decide)).symm)
  have hB47 := hB37.ext hXl44 (by simpa using (OwnR.ne_type hB40 hB37 (by decide)).symm)
  have hB48 := hB38.ext hXl44 (by simpa using (OwnR.neR hB38 hB40 (by decide)))
  have hB49 := hB39.ext hXl44 (by simpa using hgw)
  have hB50 := hB41.ext hXl44 (by simpa using (Ne.symm hn23))
  refine sdq 1 [.p] [] [(25, .bool (decide ((↑k : Int) < ↑p.r.length)))] [] hS .nil fun a hS => sq fun K52 hK52 => ?_
  refine cond_b hS rfl (fun hb53 => ?_) (fun hb53 => ?_)
  ·
   replace hb53 := of_decide_eq_true hb53
   obtain ⟨x, hxk⟩ : ∃ x, p.r[k]? = some x := gE
   have hxm := List.mem_of_getElem? hxk
   refine wpIn_skip <| hK52 _ _ <| sq fun K54 hK54 => wpIn_block <| sq fun K55 hK55 => rgn 6 <| sd ww [.p, .run ((Po (bof p.rv) (oof p.rv + k * 2))), .lds [I6 x.1, I6 x.2]] [Rv (Instr.indexAt 71 (p.rv) (I6 k)) ((Po (bof p.rv) (oof p.rv + k * 2))) wl44, wl44.cell? ⟨bof p.rv, oof p.rv + k * 2, none⟩ = some (I6 x.1), wl44.cell? ⟨bof p.rv, oof p.rv + k * 2 + 1, none⟩ = some (I6 x.2)] [(26, I6 k), (28, .agg #[I6 x.1, I6 x.2])] [] 3 3 hS (.c (ixr 61 k (hG.right p hpm)) (.c (((hG.right p hpm).ext0 (hbl44.t1 hXl44 hgn)).cellAt (k * 2 + 0) (by omega) (ycells_at p.r k 0 x hxk (by omega))) (.c (((hG.right p hpm).ext0 (hbl44.t1 hXl44 hgn)).cellAt (k * 2 + 1) (by omega) (ycells_at p.r k 1 x hxk (by omega))) .nil))) fun a hS => ebx 2 #[I6 0, I6 0] 61 (some 10) hS fun a w56 hw57 hS => ?_
   have hn59 := Nat.ne_of_lt hB46.lt
   have hn60 := Nat.ne_of_lt hB47.lt
   have hn61 := Nat.ne_of_lt hB48.lt
   have hn62 := Nat.ne_of_lt hB49.lt
   have hn63 := Nat.ne_of_lt hB50.lt
   have hn64 := Nat.ne_of_lt hg2.lt
   have hB66 := Blk.at' hw57 (hB46.alloc _)
   have hB67 := Blk.at' hw57 (hB47.alloc _)
   have hB68 := OwnR.at' hw57 (hB48.alloc _)
   have hB69 := OwnR.at' hw57 (hB49.alloc _)
   have hB70 := Blk.at' hw57 (hB50.alloc _)
   have hB71 := OwnR.at' hw57 (hg2.alloc _)
   have hB72 := Blk.nw hw57
   have hs73 := hXl44.size
   have hE74 := hXl44.al hw57
   refine sd ww [.p] [] [(9, I6 k)] [] 5 1 hS .nil fun a hS => est 0 wl44.heap.size 0 [I6 x.1, I6 x.2] hS hB72 fun a w75 hw76 hS => ?_
   have hB78 := Blk.at' hw76 (hB66.updNe (Ne.symm hn59) _ _)
   have hB79 := Blk.at' hw76 (hB67.updNe (Ne.symm hn60) _ _)
   have hB80 := OwnR.at' hw76 (hB68.updNe (Ne.symm hn61) _ _)
   have hB81 := OwnR.at' hw76 (hB69.updNe (Ne.symm hn62) _ _)
   have hB82 := Blk.at' hw76 (hB70.updNe (Ne.symm hn63) _ _)
   have hB83 := OwnR.at' hw76 (hB71.updNe (Ne.symm hn64) _ _)
   have hB84 : Blk w75 wl44.heap.size 61 (#[I6 x.1, I6 x.2]) := hB72.up hw76
   have hE85 := hE74.ui hw76 hs73
   refine sge hK55 <| sq fun K86 hK86 => sq fun K87 hK87 => ?_
   rcases (show (x.1 = 3) ∨ (¬x.1 = 3) from Decidable.em _) with h1 | h1
   ·
    have hxn := hI.name hpm hxm h1
    have hfo := hQ.h.snd.ok
    have hfl2 := hQ.h.snd.len
    have hrc := rcut (hG.right p hpm) (l := k + 1) (by omega)
    have hrow : row (p.r.drop (k + 1)) = (row p.r).drop (k + 1) := by rw [row, row, List.map_drop]
    have hsm := hI.small hlx hpm
    have hdok : ((hdS S.nl ff es (row (p.r.drop (k + 1)))).1).ok := by
     rw [hrow]
     exact hdS_ok hK.hs.ok ⟨hsm.1, fun n hn => hsm.2 n (List.mem_of_mem_drop hn)⟩
    obtain ⟨fx, hfx⟩ : ∃ fx, fs2[x.2.toNat]? = some fx := gE
    obtain ⟨fl, hfl⟩ : ∃ fl, fs2[p.l.toNat]? = some fl := gE
    refine rgn 3 <| sd ww [.p, .ld (I6 x.1), .as (.bool false)] [_, Value.bool (((x.1 : Int) != 3)) = .bool false] [(31, .bool false)] [] 3 0 hS (hB84.k 0 (.c (as_ne_f (by omega)) .nil)) fun a hS => sge hK87 ?_
    refine cond_f hS rfl ?_
    refine wpIn_skip <| hK86 _ _ <| sq fun K88 hK88 => ?_
    refine region_set (G := Nat) ww [.q (.ld ((Pv gb))), .q .p, .q (.ld (p.rv)), .q .p, .q (.as (I6 ((k + 1 : Nat) : Int))), .q (.run (rsz 2 p.rv (k + 1) p.r.length (capOf p.rv))), .e, .q .p, .q .p, .q .p, .e, .e, .q .p] [0, 0, 2, 0, 8, 30, 63, 127, 255, 255, 0, 1535, 4095] [6, 10, 11] (fun x9_10 => ([(0, Sl gw S.ns.length cw), (1, (Pv sb)), (2, (Pv tb)), (15, S.pv), (16, I6 S.ps.length), (17, I6 i), (8, (Pv wl5.heap.size)), (22, p.rv), (23, I6 p.r.length), (24, I6 k), (6, .bool hr), (25, .bool (decide ((↑k : Int) < ↑p.r.length))), (10, (Pv wl44.heap.size)), (9, I6 k), (31, .bool false), (33, (Pv gb)), (34, (Po wl5.heap.size 1)), (35, p.rv), (36, I6 k), (37, I6 ((k + 1 : Nat) : Int)), (38, (rsz 2 p.rv (k + 1) p.r.length (capOf p.rv))), (39, .tuple #[.agg #[.int .u64 (((hdS S.nl ff es (row (p.r.drop (k + 1)))).1).1 : Int), .int .u64 (((hdS S.nl ff es (row (p.r.drop (k + 1)))).1).2 : Int)], .bool ((hdS S.nl ff es (row (p.r.drop (k + 1)))).2)]), (32, .tuple #[.agg #[.int .u64 (((hdS S.nl ff es (row (p.r.drop (k + 1)))).1).1 : Int), .int .u64 (((hdS S.nl ff es (row (p.r.drop (k + 1)))).1).2 : Int)], .bool ((hdS S.nl ff es (row (p.r.drop (k + 1)))).2)]), (40, .agg #[.int .u64 (((hdS S.nl ff es (row (p.r.drop (k + 1)))).1).1 : Int), .int .u64 (((hdS S.nl ff es (row (p.r.drop (k + 1)))).1).2 : Int)]), (41, .bool ((hdS S.nl ff es (row (p.r.drop (k + 1)))).2)), (11, (Pv x9_10)), (12, .bool ((hdS S.nl ff es (row (p.r.drop (k + 1)))).2))] : Fm)) (fun D x9_10 w' => Ext [] w75 w' ∧ (D 11 = false → (D 10 = true → (Blk w' x9_10 110 (#[.int .u64 0, .int .u64 0]) ∧ w75.heap.size ≤ x9_10)) ∧ True) ∧ (D 11 = true → (Blk w' x9_10 110 (#[.int .u64 (((hdS S.nl ff es (row (p.r.drop (k + 1)))).1).1 : Int), .int .u64 (((hdS S.nl ff es (row (p.r.drop (k + 1)))).1).2 : Int)]) ∧ w75.heap.size ≤ x9_10) ∧ True)) (fun x9_10 w' => [(0, [w'.cell? ⟨tb, 0, none⟩ = some ((Pv gb))]), (2, [w'.cell? ⟨wl5.heap.size, 1, none⟩ = some (p.rv)]), (4, [Value.int .i64 (IntKind.i64.wrap (↑k + 1)) = I6 ((k + 1 : Nat) : Int)]), (5, [Rv (Instr.sliceAt 71 p.rv (some (I6 ((k + 1 : Nat) : Int))) none none) (rsz 2 p.rv (k + 1) p.r.length (capOf p.rv)) w'])]) 0 [0, 1, 2, 15, 16, 17, 8, 22, 23, 24, 6, 25, 10, 9, 31] [] hS (by kernel_rfl) (by kernel_rfl) (by kernel_rfl) (by kernel_rfl) (fun x9_10 _ => by kernel_rfl) (by kernel_rfl) (by kernel_rfl) ⟨(Ext.refl _ _).drew, fun _ => ⟨fun h => (by cases h), trivial⟩, fun h => by cases h⟩ ?_ ?_ ?_
    ·rintro D x9_10 w' ⟨hE, _, _⟩ xq hxq _ _
     refine AllI.mem ?_ xq hxq
     exact (.c (.c (((hB78.ext hE (by simp)) : Blk w' tb 106 (#[(Pv gb)])).cell 0 rfl) .nil) (.c (.c (((hB82.ext hE (by simp)) : Blk w' wl5.heap.size 73 (#[I6 p.l, p.rv])).cell 1 rfl) .nil) (.c (.c ((by rw [show (↑k + 1 : Int) = ((k + 1 : Nat) : Int) from by omega]; exact as_i64 (by omega))) .nil) (.c (.c (sl_z (e := 61) (l := k + 1) (k := p.r.length) (some (I6 ((k + 1 : Nat) : Int))) none (hG.right p hpm) (by kernel_rfl) (by kernel_rfl) (.inr ⟨_, rfl⟩) (.inl ⟨rfl, rfl⟩) (by omega) (by omega)) .nil) .nil))))
    ·refine (.c ?_ (.c ?_ (.c ?_ .nil)))
     ·rintro D x9_10 w' ⟨hE, hA, hB⟩ hDi hdp hnd
      have hDf : D 11 = false := hnd 11 (by simp) (by decide)
      obtain ⟨hA10, _⟩ := hA hDf
      refine upon_call (f := 58) (vs := [(Pv gb), (rsz 2 p.rv (k + 1) p.r.length (capOf p.rv))]) (cap := #[]) (d := (some 39)) (by kernel_rfl) Tryd.call58 #[(Pv gb), (rsz 2 p.rv (k + 1) p.r.length (capOf p.rv))] (by kernel_rfl) (heads_any hG ((hbl44.t1 hE85 hgn).trans0 hE) (hB79.ext hE (by simp)) (hB80.ext hE (by simp)) (hB81.ext hE (by simp)) hK.hes.len hK.hs.len hK.hs.ok hlx hrc (by rw [List.length_drop]; omega) (fun y hy => hI.right p hpm y (List.mem_of_mem_drop hy))) ?_
      rintro _ wn ⟨rfl, hEn⟩
      refine ⟨_, rfl, (x9_10), by kernel_rfl, by kernel_rfl, hE.trans0 hEn, fun _ => ⟨fun h => ⟨(hA10 h).1.ext hEn (by simp), (hA10 h).2⟩, trivial⟩, fun h => ?_⟩
      rw [show setS D 6 11 = D 11 from rfl, hDf] at h; cases h
     ·rintro D x9_10 w' ⟨hE, hA, hB⟩ hDi hdp hnd
      have hDf : D 11 = false := hnd 11 (by simp) (by decide)
      obtain ⟨hA10, _⟩ := hA hDf
      have hEn : Ext [] w' (w'.alloc (.cells #[.int .u64 0, .int .u64 0] 110)) := (Ext.refl _ _).alloc _
      refine upon_box (nb := w'.heap.size) (cs := #[.int .u64 0, .int .u64 0]) (T := 110) (d := (some 11)) (by kernel_rfl) rfl ⟨(w'.heap.size), by kernel_rfl, by kernel_rfl, hE.trans0 hEn, fun _ => ⟨fun _ => ⟨Blk.new _ _ _, hE.size⟩, trivial⟩, fun h => ?_⟩
      rw [show setS D 10 11 = D 11 from rfl, hDf] at h; cases h
     ·rintro D x9_10 w' ⟨hE, hA, hB⟩ hDi hdp hnd
      obtain ⟨hA10, _⟩ := hA hDi
      obtain ⟨hf10, hs10⟩ := hA10 (hdp 10 (by simp) (by decide))
      refine upon_store (b := x9_10) (off := 0) (vs := [.int .u64 (((hdS S.nl ff es (row (p.r.drop (k + 1)))).1).1 : Int), .int .u64 (((hdS S.nl ff es (row (p.r.drop (k + 1)))).1).2 : Int)]) (by kernel_rfl) hf10 (by simp) ⟨x9_10, by kernel_rfl, by kernel_rfl, hE.updIn (.inr hs10) _ _, fun h => ?_, fun _ => ⟨⟨hf10.upd _ _, hs10⟩, trivial⟩⟩
      rw [setS_self] at h; cases h
    rintro D x9_10 a wz89 hS hall ⟨hEz89, _, hB⟩
    obtain ⟨⟨hz89_10, hy89_10⟩, _⟩ := hB (hall 11 (by simp))
    have hB95 := hB82.ext hEz89 (by simp)
    have hB96 := hB83.ext hEz89 (by simp)
    have hB97 := hB84.ext hEz89 (by simp)
    have hw89_10 : w33.heap.size ≤ x9_10 := Nat.le_trans hE85.size hy89_10
    have hE98 := hE85.trans0 hEz89
    replace hS := hS.kp [(0, Sl gw S.ns.length cw), (1, (Pv sb)), (2, (Pv tb)), (15, S.pv), (16, I6 S.ps.length), (17, I6 i), (8, (Pv wl5.heap.size)), (22, p.rv), (23, I6 p.r.length), (24, I6 k), (6, .bool hr), (25, .bool (decide ((↑k : Int) < ↑p.r.length))), (10, (Pv wl44.heap.size)), (9, I6 k), (31, .bool false), (11, (Pv x9_10)), (12, .bool ((hdS S.nl ff es (row (p.r.drop (k + 1)))).2))]
    refine hK88 _ _ <| sq fun K99 hK99 => sdq 1 [.p] [] [(42, .bool ((hdS S.nl ff es (row (p.r.drop (k + 1)))).2))] [] hS .nil fun a hS => ?_
    refine cond_b hS rfl (fun hb101 => ?_) (fun hb101 => ?_)
    ·
     replace hb101 := hb101
     have hwt : want S.nl ff es fs2 p k = un (hdS S.nl ff es (row (p.r.drop (k + 1)))).1 fl := by unfold want; rw [← hrow, if_pos hb101, gF_at hfl]
     refine gh3 (G := World) [.q (.lds [.int .u64 (((hdS S.nl ff es (row (p.r.drop (k + 1)))).1).1 : Int), .int .u64 (((hdS S.nl ff es (row (p.r.drop (k + 1)))).1).2 : Int)]), .q .p, .q .p, .q (.ld (I6 p.l)), .q (.run ((Po gw (0 + p.l.toNat * 2)))), .q (.lds [.int .u64 ↑fl.1, .int .u64 ↑fl.2]), .e, .e] [0, 0, 0, 0, 0, 0, 0, 1] [0, 0, 0, 0, 0, 0, 0, 1] [0, 0, 0, 4, 14, 30, 63, 127] [6, 7] [(6, 0), (7, 1)] 2 (fun wc102 => ([(0, Sl gw S.ns.length cw), (1, (Pv sb)), (2, (Pv tb)), (15, S.pv), (16, I6 S.ps.length), (17, I6 i), (8, (Pv wl5.heap.size)), (22, p.rv), (23, I6 p.r.length), (24, I6 k), (6, .bool hr), (25, .bool (decide ((↑k : Int) < ↑p.r.length))), (10, (Pv wl44.heap.size)), (9, I6 k), (31, .bool false), (11, (Pv x9_10)), (12, .bool ((hdS S.nl ff es (row (p.r.drop (k + 1)))).2)), (42, .bool ((hdS S.nl ff es (row (p.r.drop (k + 1)))).2)), (43, .agg #[.int .u64 (((hdS S.nl ff es (row (p.r.drop (k + 1)))).1).1 : Int), .int .u64 (((hdS S.nl ff es (row (p.r.drop (k + 1)))).1).2 : Int)]), (44, Sl gw S.ns.length cw), (45, (Pv wl5.heap.size)), (46, I6 p.l), (47, (Po gw (0 + p.l.toNat * 2))), (48, .agg #[.int .u64 ↑fl.1, .int .u64 ↑fl.2]), (49, .agg #[.int .u64 ((un (hdS S.nl ff es (row (p.r.drop (k + 1)))).1 fl).1 : Int), .int .u64 ((un (hdS S.nl ff es (row (p.r.drop (k + 1)))).1 fl).2 : Int)])] : Fm)) (fun wc102 => [wz89.drew, wc102, upd (wc102) (x9_10) 110 #[.int .u64 ((un (hdS S.nl ff es (row (p.r.drop (k + 1)))).1 fl).1 : Int), .int .u64 ((un (hdS S.nl ff es (row (p.r.drop (k + 1)))).1 fl).2 : Int)]]) (wz89.drew) (fun e wc102 => hAt [True, (Ext [] wz89.drew wc102) ∧ True, (Ext [] wz89.drew wc102) ∧ True] e) (fun wc102 w' => [(0, [w'.cell? ⟨x9_10, 0, none⟩ = some (.int .u64 (((hdS S.nl ff es (row (p.r.drop (k + 1)))).1).1 : Int)), w'.cell? ⟨x9_10, 1, none⟩ = some (.int .u64 (((hdS S.nl ff es (row (p.r.drop (k + 1)))).1).2 : Int))]), (3, [w'.cell? ⟨wl5.heap.size, 0, none⟩ = some (I6 p.l)]), (4, [Rv (Instr.indexAt 103 (Sl gw S.ns.length cw) (I6 p.l)) ((Po gw (0 + p.l.toNat * 2))) w']), (5, [w'.cell? ⟨gw, 0 + p.l.toNat * 2, none⟩ = some (.int .u64 ↑fl.1), w'.cell? ⟨gw, 0 + p.l.toNat * 2 + 1, none⟩ = some (.int .u64 ↑fl.2)])]) wz89.drew [0, 1, 2, 15, 16, 17, 8, 22, 23, 24, 6, 25, 10, 9, 31, 11, 12, 42] [] hS (fun wc102 _ => by kernel_rfl) trivial ?_ ?_ ?_
     ·rintro e wc102 w' hw hH
      refine (.c ?_ (.c ?_ (.c ?_ (.c ?_ .nil))))
      ·intro h1 h2
       obtain rfl := Nat.le_antisymm h2 h1
       have hwe : wz89.drew = w' := hwz hw
       subst hwe
       clear hH
       exact (.c ((hz89_10.drew : Blk wz89.drew x9_10 110 (#[.int .u64 (((hdS S.nl ff es (row (p.r.drop (k + 1)))).1).1 : Int), .int .u64 (((hdS S.nl ff es (row (p.r.drop (k + 1)))).1).2 : Int)])).cell 0 rfl) (.c ((hz89_10.drew : Blk wz89.drew x9_10 110 (#[.int .u64 (((hdS S.nl ff es (row (p.r.drop (k + 1)))).1).1 : Int), .int .u64 (((hdS S.nl ff es (row (p.r.drop (k + 1)))).1).2 : Int)])).cell 1 rfl) .nil))
      ·intro h1 h2
       obtain rfl := Nat.le_antisymm h2 h1
       have hwe : wz89.drew = w' := hwz hw
       subst hwe
       clear hH
       exact (.c ((hB95.drew : Blk wz89.drew wl5.heap.size 73 (#[I6 p.l, p.rv])).cell 0 rfl) .nil)
      ·intro h1 h2
       obtain rfl := Nat.le_antisymm h2 h1
       have hwe : wz89.drew = w' := hwz hw
       subst hwe
       clear hH
       exact (.c (ixz 110 2 p.l) .nil)
      ·intro h1 h2
       obtain rfl := Nat.le_antisymm h2 h1
       have hwe : wz89.drew = w' := hwz hw
       subst hwe
       clear hH
       exact (.c ((hB96.drew : OwnR wz89.drew 110 2 gw cw S.ns.length (secs fs2)).cellAt _ (by rw [Nat.zero_add]; exact secs_at (i := 0) hfl (by omega))) (.c ((hB96.drew : OwnR wz89.drew 110 2 gw cw S.ns.length (secs fs2)).cellAt _ (by rw [Nat.zero_add]; exact secs_at (i := 1) hfl (by omega))) .nil))
     ·refine (.c ?eq103_6 (.c ?eq103_7 .nil))
      ·rintro wc102 hH
       clear hH
       refine eff_gh (wz89.drew) (by kernel_rfl) ?_
       refine upon_call (f := 59) (vs := [.agg #[.int .u64 (((hdS S.nl ff es (row (p.r.drop (k + 1)))).1).1 : Int), .int .u64 (((hdS S.nl ff es (row (p.r.drop (k + 1)))).1).2 : Int)], .agg #[.int .u64 ↑fl.1, .int .u64 ↑fl.2]]) (cap := #[]) (d := (some 49)) (by kernel_rfl) Tryd.call59 #[.agg #[.int .u64 (((hdS S.nl ff es (row (p.r.drop (k + 1)))).1).1 : Int), .int .u64 (((hdS S.nl ff es (row (p.r.drop (k + 1)))).1).2 : Int)], .agg #[.int .u64 ↑fl.1, .int .u64 ↑fl.2]] (by kernel_rfl) (with_any (hdS S.nl ff es (row (p.r.drop (k + 1)))).1 fl hdok (hfo fl (List.mem_of_getElem? hfl))) ?_
       rintro _ wc102 ⟨rfl, hEc102⟩
       exact ⟨_, rfl, ⟨wc102, by kernel_rfl, by kernel_rfl, by kernel_rfl, ⟨hEc102, trivial⟩⟩⟩
      ·rintro wc102 hH
       obtain ⟨hEc102, _⟩ := hH
       refine eff_gh (wc102) (by kernel_rfl) ?_
       exact upon_store (b := x9_10) (off := 0) (vs := [.int .u64 ((un (hdS S.nl ff es (row (p.r.drop (k + 1)))).1 fl).1 : Int), .int .u64 ((un (hdS S.nl ff es (row (p.r.drop (k + 1)))).1 fl).2 : Int)]) (by kernel_rfl) ((hz89_10.drew : Blk wz89.drew x9_10 110 (#[.int .u64 (((hdS S.nl ff es (row (p.r.drop (k + 1)))).1).1 : Int), .int .u64 (((hdS S.nl ff es (row (p.r.drop (k + 1)))).1).2 : Int)])).ext hEc102 (by simp) : Blk wc102 x9_10 110 (#[.int .u64 (((hdS S.nl ff es (row (p.r.drop (k + 1)))).1).1 : Int), .int .u64 (((hdS S.nl ff es (row (p.r.drop (k + 1)))).1).2 : Int)])) (by simp) ⟨wc102, by kernel_rfl, by kernel_rfl, by kernel_rfl, ⟨hEc102, trivial⟩⟩
     rintro wc102 a w104 hS hw105 hH
     obtain ⟨hEc102, _⟩ := hH
     replace hw105 : w104 = upd (wc102) (x9_10) 110 #[.int .u64 ((un (hdS S.nl ff es (row (p.r.drop (k + 1)))).1 fl).1 : Int), .int .u64 ((un (hdS S.nl ff es (row (p.r.drop (k + 1)))).1 fl).2 : Int)] := hw105.trans (by kernel_rfl)
     have hB112 := OwnR.at' hw105 (((hB96.drew : OwnR wz89.drew 110 2 gw cw S.ns.length (secs fs2)).ext hEc102 (by simp)).updNe (Ne.symm (Nat.ne_of_lt (Nat.lt_of_lt_of_le hB83.lt hy89_10))) _ _)
     have hB113 := Blk.at' hw105 (((hB97.drew : Blk wz89.drew wl44.heap.size 61 (#[I6 x.1, I6 x.2])).ext hEc102 (by simp)).updNe (Ne.symm (Nat.ne_of_lt (Nat.lt_of_lt_of_le hB84.lt hy89_10))) _ _)
     have hB114 : Blk w104 x9_10 110 (#[.int .u64 ((un (hdS S.nl ff es (row (p.r.drop (k + 1)))).1 fl).1 : Int), .int .u64 ((un (hdS S.nl ff es (row (p.r.drop (k + 1)))).1 fl).2 : Int)]) := by rw [hw105]; exact ((hz89_10.drew : Blk wz89.drew x9_10 110 (#[.int .u64 (((hdS S.nl ff es (row (p.r.drop (k + 1)))).1).1 : Int), .int .u64 (((hdS S.nl ff es (row (p.r.drop (k + 1)))).1).2 : Int)])).ext hEc102 (by simp)).upd _ _
     have hE115 : Ext [gw] w33 w104 := by rw [hw105]; exact ((hE98.drew).trans0 hEc102).updIn (.inr hw89_10) _ _
     replace hS := hS.kp [(0, Sl gw S.ns.length cw), (1, (Pv sb)), (2, (Pv tb)), (15, S.pv), (16, I6 S.ps.length), (17, I6 i), (8, (Pv wl5.heap.size)), (22, p.rv), (23, I6 p.r.length), (24, I6 k), (6, .bool hr), (25, .bool (decide ((↑k : Int) < ↑p.r.length))), (10, (Pv wl44.heap.size)), (9, I6 k), (31, .bool false), (11, (Pv x9_10)), (12, .bool ((hdS S.nl ff es (row (p.r.drop (k + 1)))).2)), (42, .bool ((hdS S.nl ff es (row (p.r.drop (k + 1)))).2))]
     refine hK99 _ _ <| sq fun K116 hK116 => ?_
     refine region_set (G := Nat) ww [.q .p, .q .p, .q (.ld (I6 x.2)), .q (.run ((Po gw (0 + x.2.toNat * 2)))), .q (.lds [.int .u64 ↑fx.1, .int .u64 ↑fx.2]), .q (.lds [.int .u64 ((un (hdS S.nl ff es (row (p.r.drop (k + 1)))).1 fl).1 : Int), .int .u64 ((un (hdS S.nl ff es (row (p.r.drop (k + 1)))).1 fl).2 : Int)]), .e, .e, .e] [0, 0, 2, 7, 15, 0, 63, 0, 255] [6, 7, 8] (fun x12_7 => ([(0, Sl gw S.ns.length cw), (1, (Pv sb)), (2, (Pv tb)), (15, S.pv), (16, I6 S.ps.length), (17, I6 i), (8, (Pv wl5.heap.size)), (22, p.rv), (23, I6 p.r.length), (24, I6 k), (6, .bool hr), (25, .bool (decide ((↑k : Int) < ↑p.r.length))), (10, (Pv wl44.heap.size)), (9, I6 k), (31, .bool false), (11, (Pv x9_10)), (12, .bool ((hdS S.nl ff es (row (p.r.drop (k + 1)))).2)), (42, .bool ((hdS S.nl ff es (row (p.r.drop (k + 1)))).2)), (50, Sl gw S.ns.length cw), (51, (Po wl44.heap.size 1)), (52, I6 x.2), (53, (Po gw (0 + x.2.toNat * 2))), (54, .agg #[.int .u64 ↑fx.1, .int .u64 ↑fx.2]), (55, .agg #[.int .u64 ((un (hdS S.nl ff es (row (p.r.drop (k + 1)))).1 fl).1 : Int), .int .u64 ((un (hdS S.nl ff es (row (p.r.drop (k + 1)))).1 fl).2 : Int)]), (56, .agg #[.int .u64 ((un fx (un (hdS S.nl ff es (row (p.r.drop (k + 1)))).1 fl)).1 : Int), .int .u64 ((un fx (un (hdS S.nl ff es (row (p.r.drop (k + 1)))).1 fl)).2 : Int)]), (13, (Pv x12_7))] : Fm)) (fun D x12_7 w' => Ext [] w104 w' ∧ (D 8 = false → (D 7 = true → (Blk w' x12_7 110 (#[.int .u64 0, .int .u64 0]) ∧ w104.heap.size ≤ x12_7)) ∧ True) ∧ (D 8 = true → (Blk w' x12_7 110 (#[.int .u64 ((un fx (un (hdS S.nl ff es (row (p.r.drop (k + 1)))).1 fl)).1 : Int), .int .u64 ((un fx (un (hdS S.nl ff es (row (p.r.drop (k + 1)))).1 fl)).2 : Int)]) ∧ w104.heap.size ≤ x12_7) ∧ True)) (fun x12_7 w' => [(2, [w'.cell? ⟨wl44.heap.size, 1, none⟩ = some (I6 x.2)]), (3, [Rv (Instr.indexAt 103 (Sl gw S.ns.length cw) (I6 x.2)) ((Po gw (0 + x.2.toNat * 2))) w']), (4, [w'.cell? ⟨gw, 0 + x.2.toNat * 2, none⟩ = some (.int .u64 ↑fx.1), w'.cell? ⟨gw, 0 + x.2.toNat * 2 + 1, none⟩ = some (.int .u64 ↑fx.2)]), (5, [w'.cell? ⟨x9_10, 0, none⟩ = some (.int .u64 ((un (hdS S.nl ff es (row (p.r.drop (k + 1)))).1 fl).1 : Int)), w'.cell? ⟨x9_10, 1, none⟩ = some (.int .u64 ((un (hdS S.nl ff es (row (p.r.drop (k + 1)))).1 fl).2 : Int))])]) 0 [0, 1, 2, 15, 16, 17, 8, 22, 23, 24, 6, 25, 10, 9, 31, 11, 12, 42] [] hS (by kernel_rfl) (by kernel_rfl) (by kernel_rfl) (by kernel_rfl) (fun x12_7 _ => by kernel_rfl) (by kernel_rfl) (by kernel_rfl) ⟨(Ext.refl _ _).drew, fun _ => ⟨fun h => (by cases h), trivial⟩, fun h => by cases h⟩ ?_ ?_ ?_
     ·rintro D x12_7 w' ⟨hE, _, _⟩ xq hxq _ _
      refine AllI.mem ?_ xq hxq
      exact (.c (.c (((hB113.ext hE (by simp)) : Blk w' wl44.heap.size 61 (#[I6 x.1, I6 x.2])).cell 1 rfl) .nil) (.c (.c (ixz 110 2 x.2) .nil) (.c (.c (((hB112.ext hE (by simp)) : OwnR w' 110 2 gw cw S.ns.length (secs fs2)).cellAt _ (by rw [Nat.zero_add]; exact secs_at (i := 0) hfx (by omega))) (.c (((hB112.ext hE (by simp)) : OwnR w' 110 2 gw cw S.ns.length (secs fs2)).cellAt _ (by rw [Nat.zero_add]; exact secs_at (i := 1) hfx (by omega))) .nil)) (.c (.c (((hB114.ext hE (by simp)) : Blk w' x9_10 110 (#[.int .u64 ((un (hdS S.nl ff es (row (p.r.drop (k + 1)))).1 fl).1 : Int), .int .u64 ((un (hdS S.nl ff es (row (p.r.drop (k + 1)))).1 fl).2 : Int)])).cell 0 rfl) (.c (((hB114.ext hE (by simp)) : Blk w' x9_10 110 (#[.int .u64 ((un (hdS S.nl ff es (row (p.r.drop (k + 1)))).1 fl).1 : Int), .int .u64 ((un (hdS S.nl ff es (row (p.r.drop (k + 1)))).1 fl).2 : Int)])).cell 1 rfl) .nil)) .nil))))
     ·refine (.c ?_ (.c ?_ (.c ?_ .nil)))
      ·rintro D x12_7 w' ⟨hE, hA, hB⟩ hDi hdp hnd
       have hDf : D 8 = false := hnd 8 (by simp) (by decide)
       obtain ⟨hA7, _⟩ := hA hDf
       refine upon_call (f := 59) (vs := [.agg #[.int .u64 ↑fx.1, .int .u64 ↑fx.2], .agg #[.int .u64 ((un (hdS S.nl ff es (row (p.r.drop (k + 1)))).1 fl).1 : Int), .int .u64 ((un (hdS S.nl ff es (row (p.r.drop (k + 1)))).1 fl).2 : Int)]]) (cap := #[]) (d := (some 56)) (by kernel_rfl) Tryd.call59 #[.agg #[.int .u64 ↑fx.1, .int .u64 ↑fx.2], .agg #[.int .u64 ((un (hdS S.nl ff es (row (p.r.drop (k + 1)))).1 fl).1 : Int), .int .u64 ((un (hdS S.nl ff es (row (p.r.drop (k + 1)))).1 fl).2 : Int)]] (by kernel_rfl) (with_any fx (un (hdS S.nl ff es (row (p.r.drop (k + 1)))).1 fl) (hfo fx (List.mem_of_getElem? hfx)) (ok_un hdok (hfo fl (List.mem_of_getElem? hfl)))) ?_
       rintro _ wn ⟨rfl, hEn⟩
       refine ⟨_, rfl, (x12_7), by kernel_rfl, by kernel_rfl, hE.trans0 hEn, fun _ => ⟨fun h => ⟨(hA7 h).1.ext hEn (by simp), (hA7 h).2⟩, trivial⟩, fun h => ?_⟩
       rw [show setS D 6 8 = D 8 from rfl, hDf] at h; cases h
      ·rintro D x12_7 w' ⟨hE, hA, hB⟩ hDi hdp hnd
       have hDf : D 8 = false := hnd 8 (by simp) (by decide)
       obtain ⟨hA7, _⟩ := hA hDf
       have hEn : Ext [] w' (w'.alloc (.cells #[.int .u64 0, .int .u64 0] 110)) := (Ext.refl _ _).alloc _
       refine upon_box (nb := w'.heap.size) (cs := #[.int .u64 0, .int .u64 0]) (T := 110) (d := (some 13)) (by kernel_rfl) rfl ⟨(w'.heap.size), by kernel_rfl, by kernel_rfl, hE.trans0 hEn, fun _ => ⟨fun _ => ⟨Blk.new _ _ _, hE.size⟩, trivial⟩, fun h => ?_⟩
       rw [show setS D 7 8 = D 8 from rfl, hDf] at h; cases h
      ·rintro D x12_7 w' ⟨hE, hA, hB⟩ hDi hdp hnd
       obtain ⟨hA7, _⟩ := hA hDi
       obtain ⟨hf7, hs7⟩ := hA7 (hdp 7 (by simp) (by decide))
       refine upon_store (b := x12_7) (off := 0) (vs := [.int .u64 ((un fx (un (hdS S.nl ff es (row (p.r.drop (k + 1)))).1 fl)).1 : Int), .int .u64 ((un fx (un (hdS S.nl ff es (row (p.r.drop (k + 1)))).1 fl)).2 : Int)]) (by kernel_rfl) hf7 (by simp) ⟨x12_7, by kernel_rfl, by kernel_rfl, hE.updIn (.inr hs7) _ _, fun h => ?_, fun _ => ⟨⟨hf7.upd _ _, hs7⟩, trivial⟩⟩
       rw [setS_self] at h; cases h
     rintro D x12_7 a wz117 hS hall ⟨hEz117, _, hB⟩
     obtain ⟨⟨hz117_7, hy117_7⟩, _⟩ := hB (hall 8 (by simp))
     have hB124 := hB112.ext hEz117 (by simp)
     have hB125 := hB113.ext hEz117 (by simp)
     have hw117_7 : w33.heap.size ≤ x12_7 := Nat.le_trans hE115.size hy117_7
     have hE127 := hE115.trans0 hEz117
     replace hS := hS.kp [(0, Sl gw S.ns.length cw), (1, (Pv sb)), (2, (Pv tb)), (15, S.pv), (16, I6 S.ps.length), (17, I6 i), (8, (Pv wl5.heap.size)), (22, p.rv), (23, I6 p.r.length), (24, I6 k), (6, .bool hr), (25, .bool (decide ((↑k : Int) < ↑p.r.length))), (10, (Pv wl44.heap.size)), (9, I6 k), (31, .bool false), (11, (Pv x9_10)), (12, .bool ((hdS S.nl ff es (row (p.r.drop (k + 1)))).2)), (42, .bool ((hdS S.nl ff es (row (p.r.drop (k + 1)))).2)), (13, (Pv x12_7))]
     refine hK116 _ _ <| sq fun K128 hK128 => ?_
     rcases (show (un fx (un (hdS S.nl ff es (row (p.r.drop (k + 1)))).1 fl) = fx) ∨ (¬un fx (un (hdS S.nl ff es (row (p.r.drop (k + 1)))).1 fl) = fx) from Decidable.em _) with h5 | h5
     ·
      refine fn3 [.q (.lds [.int .u64 ((un fx (un (hdS S.nl ff es (row (p.r.drop (k + 1)))).1 fl)).1 : Int), .int .u64 ((un fx (un (hdS S.nl ff es (row (p.r.drop (k + 1)))).1 fl)).2 : Int)]), .q .p, .q .p, .q (.ld (I6 x.2)), .q (.run ((Po gw (0 + x.2.toNat * 2)))), .q (.lds [.int .u64 ↑fx.1, .int .u64 ↑fx.2]), .q (.run (.bool false))] [0, 0, 0, 0, 0, 0, 0] [0, 0, 0, 0, 0, 0, 0] [0, 0, 0, 4, 14, 30, 63] [] 0 ([(0, Sl gw S.ns.length cw), (1, (Pv sb)), (2, (Pv tb)), (15, S.pv), (16, I6 S.ps.length), (17, I6 i), (8, (Pv wl5.heap.size)), (22, p.rv), (23, I6 p.r.length), (24, I6 k), (6, .bool hr), (25, .bool (decide ((↑k : Int) < ↑p.r.length))), (10, (Pv wl44.heap.size)), (9, I6 k), (31, .bool false), (11, (Pv x9_10)), (12, .bool ((hdS S.nl ff es (row (p.r.drop (k + 1)))).2)), (42, .bool ((hdS S.nl ff es (row (p.r.drop (k + 1)))).2)), (13, (Pv x12_7)), (57, .agg #[.int .u64 ((un fx (un (hdS S.nl ff es (row (p.r.drop (k + 1)))).1 fl)).1 : Int), .int .u64 ((un fx (un (hdS S.nl ff es (row (p.r.drop (k + 1)))).1 fl)).2 : Int)]), (58, Sl gw S.ns.length cw), (59, (Po wl44.heap.size 1)), (60, I6 x.2), (61, (Po gw (0 + x.2.toNat * 2))), (62, .agg #[.int .u64 ↑fx.1, .int .u64 ↑fx.2]), (63, .bool false)]) [wz117.drew] wz117.drew (fun w' => [(0, [w'.cell? ⟨x12_7, 0, none⟩ = some (.int .u64 ((un fx (un (hdS S.nl ff es (row (p.r.drop (k + 1)))).1 fl)).1 : Int)), w'.cell? ⟨x12_7, 1, none⟩ = some (.int .u64 ((un fx (un (hdS S.nl ff es (row (p.r.drop (k + 1)))).1 fl)).2 : Int))]), (3, [w'.cell? ⟨wl44.heap.size, 1, none⟩ = some (I6 x.2)]), (4, [Rv (Instr.indexAt 103 (Sl gw S.ns.length cw) (I6 x.2)) ((Po gw (0 + x.2.toNat * 2))) w']), (5, [w'.cell? ⟨gw, 0 + x.2.toNat * 2, none⟩ = some (.int .u64 ↑fx.1), w'.cell? ⟨gw, 0 + x.2.toNat * 2 + 1, none⟩ = some (.int .u64 ↑fx.2)]), (6, [Rv (do eqGuard .neq 110 (.tmp 57) (.tmp 62) (.agg #[.int .u64 ((un fx (un (hdS S.nl ff es (row (p.r.drop (k + 1)))).1 fl)).1 : Int), .int .u64 ((un fx (un (hdS S.nl ff es (row (p.r.drop (k + 1)))).1 fl)).2 : Int)]) (.agg #[.int .u64 ↑fx.1, .int .u64 ↑fx.2]); binOp .neq 110 (.agg #[.int .u64 ((un fx (un (hdS S.nl ff es (row (p.r.drop (k + 1)))).1 fl)).1 : Int), .int .u64 ((un fx (un (hdS S.nl ff es (row (p.r.drop (k + 1)))).1 fl)).2 : Int)]) (.agg #[.int .u64 ↑fx.1, .int .u64 ↑fx.2])) (.bool false) w'])]) [0, 1, 2, 15, 16, 17, 8, 22, 23, 24, 6, 25, 10, 9, 31, 11, 12, 42, 13] [] hS (fun _ => by kernel_rfl) ?_ ?_ ?_
      ·intro e w' hw
       refine (.c ?_ (.c ?_ (.c ?_ (.c ?_ (.c ?_ .nil)))))
       ·intro h1 h2
        obtain rfl := Nat.le_antisymm h2 h1
        obtain rfl : w' = wz117.drew := hw.trans (by kernel_rfl)
        exact (.c ((hz117_7.drew : Blk wz117.drew x12_7 110 (#[.int .u64 ((un fx (un (hdS S.nl ff es (row (p.r.drop (k + 1)))).1 fl)).1 : Int), .int .u64 ((un fx (un (hdS S.nl ff es (row (p.r.drop (k + 1)))).1 fl)).2 : Int)])).cell 0 rfl) (.c ((hz117_7.drew : Blk wz117.drew x12_7 110 (#[.int .u64 ((un fx (un (hdS S.nl ff es (row (p.r.drop (k + 1)))).1 fl)).1 : Int), .int .u64 ((un fx (un (hdS S.nl ff es (row (p.r.drop (k + 1)))).1 fl)).2 : Int)])).cell 1 rfl) .nil))
       ·intro h1 h2
        obtain rfl := Nat.le_antisymm h2 h1
        obtain rfl : w' = wz117.drew := hw.trans (by kernel_rfl)
        exact (.c ((hB125.drew : Blk wz117.drew wl44.heap.size 61 (#[I6 x.1, I6 x.2])).cell 1 rfl) .nil)
       ·exact fun _ _ => (.c (ixz 110 2 x.2) .nil)
       ·intro h1 h2
        obtain rfl := Nat.le_antisymm h2 h1
        obtain rfl : w' = wz117.drew := hw.trans (by kernel_rfl)
        exact (.c ((hB124.drew : OwnR wz117.drew 110 2 gw cw S.ns.length (secs fs2)).cellAt _ (by rw [Nat.zero_add]; exact secs_at (i := 0) hfx (by omega))) (.c ((hB124.drew : OwnR wz117.drew 110 2 gw cw S.ns.length (secs fs2)).cellAt _ (by rw [Nat.zero_add]; exact secs_at (i := 1) hfx (by omega))) .nil))
       ·exact fun _ _ => (.c ((bin_arr2 (e := 108) (kk := .u64) (by kernel_rfl) (by kernel_rfl) (by kernel_rfl) (by kernel_rfl) (by kernel_rfl) (by rw [se_eq]; simp only [h5, decide_true, decide_false, Bool.not_true, Bool.not_false]))) .nil)
      ·refine .nil
      rintro a w130 hS hw131
      replace hw131 : w130 = wz117.drew := hw131.trans (by kernel_rfl)
      have hB138 := OwnR.at' hw131 (hB124.drew)
      have hE142 : Ext [gw] w33 w130 := by rw [hw131]; exact hE127.drew
      replace hS := hS.kp [(0, Sl gw S.ns.length cw), (1, (Pv sb)), (2, (Pv tb)), (15, S.pv), (16, I6 S.ps.length), (17, I6 i), (8, (Pv wl5.heap.size)), (22, p.rv), (23, I6 p.r.length), (24, I6 k), (6, .bool hr), (25, .bool (decide ((↑k : Int) < ↑p.r.length))), (10, (Pv wl44.heap.size)), (9, I6 k), (31, .bool false), (11, (Pv x9_10)), (12, .bool ((hdS S.nl ff es (row (p.r.drop (k + 1)))).2)), (42, .bool ((hdS S.nl ff es (row (p.r.drop (k + 1)))).2)), (13, (Pv x12_7)), (63, .bool false)]
      refine hK128 _ _ ?_
      refine cond_f hS rfl ?_
      refine wpIn_skip <| inBlock_normal <| hK54 _ _ <| rgn 2 <| sd ww [.as (I6 ((k + 1 : Nat) : Int)), .p] [Value.int .i64 (IntKind.i64.wrap (↑k + 1)) = I6 ((k + 1 : Nat) : Int)] [(24, I6 ((k + 1 : Nat) : Int))] [] 2 0 hS (.c ((by rw [show (↑k + 1 : Int) = ((k + 1 : Nat) : Int) from by omega]; exact as_i64 (by omega))) .nil) fun a hS => seg_end ?_
      exact ⟨(k + 1, fs2, hr), ⟨hS.kp [(0, Sl gw S.ns.length cw), (1, (Pv sb)), (2, (Pv tb)), (15, S.pv), (16, I6 S.ps.length), (17, I6 i), (8, (Pv wl5.heap.size)), (22, p.rv), (23, I6 p.r.length), (24, I6 ((k + 1 : Nat) : Int)), (6, .bool hr)], hE142, by omega, hB138, hQ.pass (fun y hy h3 => by rw [hxk] at hy; cases hy; rw [gF_at hfx, hwt]; exact h5)⟩, by simp only; omega⟩
     ·
      have hsl : (secs fs2).length = S.ns.length * 2 := by rw [secs_len, hfl2]
      refine fn3 [.q (.lds [.int .u64 ((un fx (un (hdS S.nl ff es (row (p.r.drop (k + 1)))).1 fl)).1 : Int), .int .u64 ((un fx (un (hdS S.nl ff es (row (p.r.drop (k + 1)))).1 fl)).2 : Int)]), .q .p, .q .p, .q (.ld (I6 x.2)), .q (.run ((Po gw (0 + x.2.toNat * 2)))), .q (.lds [.int .u64 ↑fx.1, .int .u64 ↑fx.2]), .q (.run (.bool true))] [0, 0, 0, 0, 0, 0, 0] [0, 0, 0, 0, 0, 0, 0] [0, 0, 0, 4, 14, 30, 63] [] 0 ([(0, Sl gw S.ns.length cw), (1, (Pv sb)), (2, (Pv tb)), (15, S.pv), (16, I6 S.ps.length), (17, I6 i), (8, (Pv wl5.heap.size)), (22, p.rv), (23, I6 p.r.length), (24, I6 k), (6, .bool hr), (25, .bool (decide ((↑k : Int) < ↑p.r.length))), (10, (Pv wl44.heap.size)), (9, I6 k), (31, .bool false), (11, (Pv x9_10)), (12, .bool ((hdS S.nl ff es (row (p.r.drop (k + 1)))).2)), (42, .bool ((hdS S.nl ff es (row (p.r.drop (k + 1)))).2)), (13, (Pv x12_7)), (57, .agg #[.int .u64 ((un fx (un (hdS S.nl ff es (row (p.r.drop (k + 1)))).1 fl)).1 : Int), .int .u64 ((un fx (un (hdS S.nl ff es (row (p.r.drop (k + 1)))).1 fl)).2 : Int)]), (58, Sl gw S.ns.length cw), (59, (Po wl44.heap.size 1)), (60, I6 x.2), (61, (Po gw (0 + x.2.toNat * 2))), (62, .agg #[.int .u64 ↑fx.1, .int .u64 ↑fx.2]), (63, .bool true)]) [wz117.drew] wz117.drew (fun w' => [(0, [w'.cell? ⟨x12_7, 0, none⟩ = some (.int .u64 ((un fx (un (hdS S.nl ff es (row (p.r.drop (k + 1)))).1 fl)).1 : Int)), w'.cell? ⟨x12_7, 1, none⟩ = some (.int .u64 ((un fx (un (hdS S.nl ff es (row (p.r.drop (k + 1)))).1 fl)).2 : Int))]), (3, [w'.cell? ⟨wl44.heap.size, 1, none⟩ = some (I6 x.2)]), (4, [Rv (Instr.indexAt 103 (Sl gw S.ns.length cw) (I6 x.2)) ((Po gw (0 + x.2.toNat * 2))) w']), (5, [w'.cell? ⟨gw, 0 + x.2.toNat * 2, none⟩ = some (.int .u64 ↑fx.1), w'.cell? ⟨gw, 0 + x.2.toNat * 2 + 1, none⟩ = some (.int .u64 ↑fx.2)]), (6, [Rv (do eqGuard .neq 110 (.tmp 57) (.tmp 62) (.agg #[.int .u64 ((un fx (un (hdS S.nl ff es (row (p.r.drop (k + 1)))).1 fl)).1 : Int), .int .u64 ((un fx (un (hdS S.nl ff es (row (p.r.drop (k + 1)))).1 fl)).2 : Int)]) (.agg #[.int .u64 ↑fx.1, .int .u64 ↑fx.2]); binOp .neq 110 (.agg #[.int .u64 ((un fx (un (hdS S.nl ff es (row (p.r.drop (k + 1)))).1 fl)).1 : Int), .int .u64 ((un fx (un (hdS S.nl ff es (row (p.r.drop (k + 1)))).1 fl)).2 : Int)]) (.agg #[.int .u64 ↑fx.1, .int .u64 ↑fx.2])) (.bool true) w'])]) [0, 1, 2, 15, 16, 17, 8, 22, 23, 24, 6, 25, 10, 9, 31, 11, 12, 42, 13] [] hS (fun _ => by kernel_rfl) ?_ ?_ ?_
      ·intro e w' hw
       refine (.c ?_ (.c ?_ (.c ?_ (.c ?_ (.c ?_ .nil)))))
       ·intro h1 h2
        obtain rfl := Nat.le_antisymm h2 h1
        obtain rfl : w' = wz117.drew := hw.trans (by kernel_rfl)
        exact (.c ((hz117_7.drew : Blk wz117.drew x12_7 110 (#[.int .u64 ((un fx (un (hdS S.nl ff es (row (p.r.drop (k + 1)))).1 fl)).1 : Int), .int .u64 ((un fx (un (hdS S.nl ff es (row (p.r.drop (k + 1)))).1 fl)).2 : Int)])).cell 0 rfl) (.c ((hz117_7.drew : Blk wz117.drew x12_7 110 (#[.int .u64 ((un fx (un (hdS S.nl ff es (row (p.r.drop (k + 1)))).1 fl)).1 : Int), .int .u64 ((un fx (un (hdS S.nl ff es (row (p.r.drop (k + 1)))).1 fl)).2 : Int)])).cell 1 rfl) .nil))
       ·intro h1 h2
        obtain rfl := Nat.le_antisymm h2 h1
        obtain rfl : w' = wz117.drew := hw.trans (by kernel_rfl)
        exact (.c ((hB125.drew : Blk wz117.drew wl44.heap.size 61 (#[I6 x.1, I6 x.2])).cell 1 rfl) .nil)
       ·exact fun _ _ => (.c (ixz 110 2 x.2) .nil)
       ·intro h1 h2
        obtain rfl := Nat.le_antisymm h2 h1
        obtain rfl : w' = wz117.drew := hw.trans (by kernel_rfl)
        exact (.c ((hB124.drew : OwnR wz117.drew 110 2 gw cw S.ns.length (secs fs2)).cellAt _ (by rw [Nat.zero_add]; exact secs_at (i := 0) hfx (by omega))) (.c ((hB124.drew : OwnR wz117.drew 110 2 gw cw S.ns.length (secs fs2)).cellAt _ (by rw [Nat.zero_add]; exact secs_at (i := 1) hfx (by omega))) .nil))
       ·exact fun _ _ => (.c ((bin_arr2 (e := 108) (kk := .u64) (by kernel_rfl) (by kernel_rfl) (by kernel_rfl) (by kernel_rfl) (by kernel_rfl) (by rw [se_eq]; simp only [h5, decide_true, decide_false, Bool.not_true, Bool.not_false]))) .nil)
      ·refine .nil
      rintro a w144 hS hw145
      replace hw145 : w144 = wz117.drew := hw145.trans (by kernel_rfl)
      have hB152 := OwnR.at' hw145 (hB124.drew)
      have hB153 := Blk.at' hw145 (hB125.drew)
      have hB155 := Blk.at' hw145 (hz117_7.drew)
      have hE156 : Ext [gw] w33 w144 := by rw [hw145]; exact hE127.drew
      replace hS := hS.kp [(0, Sl gw S.ns.length cw), (1, (Pv sb)), (2, (Pv tb)), (15, S.pv), (16, I6 S.ps.length), (17, I6 i), (8, (Pv wl5.heap.size)), (22, p.rv), (23, I6 p.r.length), (24, I6 k), (6, .bool hr), (25, .bool (decide ((↑k : Int) < ↑p.r.length))), (10, (Pv wl44.heap.size)), (9, I6 k), (31, .bool false), (11, (Pv x9_10)), (12, .bool ((hdS S.nl ff es (row (p.r.drop (k + 1)))).2)), (42, .bool ((hdS S.nl ff es (row (p.r.drop (k + 1)))).2)), (13, (Pv x12_7)), (63, .bool true)]
      refine hK128 _ _ ?_
      refine cond_t hS rfl ?_
      refine rgn 7 <| sd ww [.p, .p, .ld (I6 x.2), .lds [.int .u64 ((un fx (un (hdS S.nl ff es (row (p.r.drop (k + 1)))).1 fl)).1 : Int), .int .u64 ((un fx (un (hdS S.nl ff es (row (p.r.drop (k + 1)))).1 fl)).2 : Int)], .run ((Po gw (0 + x.2.toNat * 2)))] [_, _, _, Rv (Instr.indexAt 103 (Sl gw S.ns.length cw) (I6 x.2)) ((Po gw (0 + x.2.toNat * 2))) w144] [(67, .agg #[.int .u64 ((un fx (un (hdS S.nl ff es (row (p.r.drop (k + 1)))).1 fl)).1 : Int), .int .u64 ((un fx (un (hdS S.nl ff es (row (p.r.drop (k + 1)))).1 fl)).2 : Int)]), (68, (Po gw (0 + x.2.toNat * 2)))] [] 5 2 hS (hB153.k 1 (hB155.k 0 (hB155.k 1 (.c (ixz 110 2 x.2) .nil)))) fun a hS => eff_store_ownN ww (r := 1) (b := gw) (off := 0 + x.2.toNat * 2) (vs := [.int .u64 ((un fx (un (hdS S.nl ff es (row (p.r.drop (k + 1)))).1 fl)).1 : Int), .int .u64 ((un fx (un (hdS S.nl ff es (row (p.r.drop (k + 1)))).1 fl)).2 : Int)]) (xs := (secs fs2)) hS (by kernel_rfl) hB152 (by simp only [List.length_cons, List.length_nil]; omega) fun a ws157 hOs157 hEs157 hsz157 hS => ?_
      have hE167 : Ext [gw] w33 ws157 := hE156.trans hEs157 (fun b hb => by simp at hb; subst hb; exact .inl (by simp))
      refine sg ww [.p] [] [(0, Sl gw S.ns.length cw), (1, (Pv sb)), (2, (Pv tb)), (15, S.pv), (16, I6 S.ps.length), (17, I6 i), (8, (Pv wl5.heap.size)), (22, p.rv), (23, I6 p.r.length), (24, I6 k), (6, .bool true), (25, .bool (decide ((↑k : Int) < ↑p.r.length))), (10, (Pv wl44.heap.size)), (9, I6 k), (31, .bool false), (11, (Pv x9_10)), (12, .bool ((hdS S.nl ff es (row (p.r.drop (k + 1)))).2)), (42, .bool ((hdS S.nl ff es (row (p.r.drop (k + 1)))).2)), (13, (Pv x12_7)), (63, .bool true)] 7 0 hS .nil fun a hS => seg_end <| inBlock_normal <| hK54 _ _ <| rgn 2 <| sd ww [.as (I6 ((k + 1 : Nat) : Int)), .p] [Value.int .i64 (IntKind.i64.wrap (↑k + 1)) = I6 ((k + 1 : Nat) : Int)] [(24, I6 ((k + 1 : Nat) : Int))] [] 2 0 hS (.c ((by rw [show (↑k + 1 : Int) = ((k + 1 : Nat) : Int) from by omega]; exact as_i64 (by omega))) .nil) fun a hS => seg_end ?_
      have hgs := hOs157
      rw [secs_setL _ _ (un fx (un (hdS S.nl ff es (row (p.r.drop (k + 1)))).1 fl)) (by omega), ← hwt] at hgs
      exact ⟨(k + 1, (fs2.set x.2.toNat (un fx (want S.nl ff es fs2 p k))), true), ⟨hS.kp [(0, Sl gw S.ns.length cw), (1, (Pv sb)), (2, (Pv tb)), (15, S.pv), (16, I6 S.ps.length), (17, I6 i), (8, (Pv wl5.heap.size)), (22, p.rv), (23, I6 p.r.length), (24, I6 ((k + 1 : Nat) : Int)), (6, .bool true)], hE167, by omega, hgs, hQ.set (hQ.h.snd.set hK.hes hK.hF hK.hs.ok hpm hsm hxk h1 hfx) (muF_set hfx (ok_un (hfo fx (List.mem_of_getElem? hfx)) (want_ok hK.hs.ok hfo hsm k)) (by rw [hwt]; exact h5))⟩, by simp only; omega⟩
    ·
     replace hb101 := hb101
     have hwt : want S.nl ff es fs2 p k = (hdS S.nl ff es (row (p.r.drop (k + 1)))).1 := by unfold want; rw [← hrow, if_neg (by rw [hb101]; decide)]
     refine wpIn_skip <| hK99 _ _ <| sq fun K168 hK168 => ?_
     refine region_set (G := Nat) ww [.q .p, .q .p, .q (.ld (I6 x.2)), .q (.run ((Po gw (0 + x.2.toNat * 2)))), .q (.lds [.int .u64 ↑fx.1, .int .u64 ↑fx.2]), .q (.lds [.int .u64 (((hdS S.nl ff es (row (p.r.drop (k + 1)))).1).1 : Int), .int .u64 (((hdS S.nl ff es (row (p.r.drop (k + 1)))).1).2 : Int)]), .e, .e, .e] [0, 0, 2, 7, 15, 0, 63, 0, 255] [6, 7, 8] (fun x12_7 => ([(0, Sl gw S.ns.length cw), (1, (Pv sb)), (2, (Pv tb)), (15, S.pv), (16, I6 S.ps.length), (17, I6 i), (8, (Pv wl5.heap.size)), (22, p.rv), (23, I6 p.r.length), (24, I6 k), (6, .bool hr), (25, .bool (decide ((↑k : Int) < ↑p.r.length))), (10, (Pv wl44.heap.size)), (9, I6 k), (31, .bool false), (11, (Pv x9_10)), (12, .bool ((hdS S.nl ff es (row (p.r.drop (k + 1)))).2)), (42, .bool ((hdS S.nl ff es (row (p.r.drop (k + 1)))).2)), (50, Sl gw S.ns.length cw), (51, (Po wl44.heap.size 1)), (52, I6 x.2), (53, (Po gw (0 + x.2.toNat * 2))), (54, .agg #[.int .u64 ↑fx.1, .int .u64 ↑fx.2]), (55, .agg #[.int .u64 (((hdS S.nl ff es (row (p.r.drop (k + 1)))).1).1 : Int), .int .u64 (((hdS S.nl ff es (row (p.r.drop (k + 1)))).1).2 : Int)]), (56, .agg #[.int .u64 ((un fx (hdS S.nl ff es (row (p.r.drop (k + 1)))).1).1 : Int), .int .u64 ((un fx (hdS S.nl ff es (row (p.r.drop (k + 1)))).1).2 : Int)]), (13, (Pv x12_7))] : Fm)) (fun D x12_7 w' => Ext [] wz89 w' ∧ (D 8 = false → (D 7 = true → (Blk w' x12_7 110 (#[.int .u64 0, .int .u64 0]) ∧ wz89.heap.size ≤ x12_7)) ∧ True) ∧ (D 8 = true → (Blk w' x12_7 110 (#[.int .u64 ((un fx (hdS S.nl ff es (row (p.r.drop (k + 1)))).1).1 : Int), .int .u64 ((un fx (hdS S.nl ff es (row (p.r.drop (k + 1)))).1).2 : Int)]) ∧ wz89.heap.size ≤ x12_7) ∧ True)) (fun x12_7 w' => [(2, [w'.cell? ⟨wl44.heap.size, 1, none⟩ = some (I6 x.2)]), (3, [Rv (Instr.indexAt 103 (Sl gw S.ns.length cw) (I6 x.2)) ((Po gw (0 + x.2.toNat * 2))) w']), (4, [w'.cell? ⟨gw, 0 + x.2.toNat * 2, none⟩ = some (.int .u64 ↑fx.1), w'.cell? ⟨gw, 0 + x.2.toNat * 2 + 1, none⟩ = some (.int .u64 ↑fx.2)]), (5, [w'.cell? ⟨x9_10, 0, none⟩ = some (.int .u64 (((hdS S.nl ff es (row (p.r.drop (k + 1)))).1).1 : Int)), w'.cell? ⟨x9_10, 1, none⟩ = some (.int .u64 (((hdS S.nl ff es (row (p.r.drop (k + 1)))).1).2 : Int))])]) 0 [0, 1, 2, 15, 16, 17, 8, 22, 23, 24, 6, 25, 10, 9, 31, 11, 12, 42] [] hS (by kernel_rfl) (by kernel_rfl) (by kernel_rfl) (by kernel_rfl) (fun x12_7 _ => by kernel_rfl) (by kernel_rfl) (by kernel_rfl) ⟨(Ext.refl _ _).drew, fun _ => ⟨fun h => (by cases h), trivial⟩, fun h => by cases h⟩ ?_ ?_ ?_
     ·rintro D x12_7 w' ⟨hE, _, _⟩ xq hxq _ _
      refine AllI.mem ?_ xq hxq
      exact (.c (.c (((hB97.ext hE (by simp)) : Blk w' wl44.heap.size 61 (#[I6 x.1, I6 x.2])).cell 1 rfl) .nil) (.c (.c (ixz 110 2 x.2) .nil) (.c (.c (((hB96.ext hE (by simp)) : OwnR w' 110 2 gw cw S.ns.length (secs fs2)).cellAt _ (by rw [Nat.zero_add]; exact secs_at (i := 0) hfx (by omega))) (.c (((hB96.ext hE (by simp)) : OwnR w' 110 2 gw cw S.ns.length (secs fs2)).cellAt _ (by rw [Nat.zero_add]; exact secs_at (i := 1) hfx (by omega))) .nil)) (.c (.c (((hz89_10.ext hE (by simp)) : Blk w' x9_10 110 (#[.int .u64 (((hdS S.nl ff es (row (p.r.drop (k + 1)))).1).1 : Int), .int .u64 (((hdS S.nl ff es (row (p.r.drop (k + 1)))).1).2 : Int)])).cell 0 rfl) (.c (((hz89_10.ext hE (by simp)) : Blk w' x9_10 110 (#[.int .u64 (((hdS S.nl ff es (row (p.r.drop (k + 1)))).1).1 : Int), .int .u64 (((hdS S.nl ff es (row (p.r.drop (k + 1)))).1).2 : Int)])).cell 1 rfl) .nil)) .nil))))
     ·refine (.c ?_ (.c ?_ (.c ?_ .nil)))
      ·rintro D x12_7 w' ⟨hE, hA, hB⟩ hDi hdp hnd
       have hDf : D 8 = false := hnd 8 (by simp) (by decide)
       obtain ⟨hA7, _⟩ := hA hDf
       refine upon_call (f := 59) (vs := [.agg #[.int .u64 ↑fx.1, .int .u64 ↑fx.2], .agg #[.int .u64 (((hdS S.nl ff es (row (p.r.drop (k + 1)))).1).1 : Int), .int .u64 (((hdS S.nl ff es (row (p.r.drop (k + 1)))).1).2 : Int)]]) (cap := #[]) (d := (some 56)) (by kernel_rfl) Tryd.call59 #[.agg #[.int .u64 ↑fx.1, .int .u64 ↑fx.2], .agg #[.int .u64 (((hdS S.nl ff es (row (p.r.drop (k + 1)))).1).1 : Int), .int .u64 (((hdS S.nl ff es (row (p.r.drop (k + 1)))).1).2 : Int)]] (by kernel_rfl) (with_any fx (hdS S.nl ff es (row (p.r.drop (k + 1)))).1 (hfo fx (List.mem_of_getElem? hfx)) hdok) ?_
       rintro _ wn ⟨rfl, hEn⟩
       refine ⟨_, rfl, (x12_7), by kernel_rfl, by kernel_rfl, hE.trans0 hEn, fun _ => ⟨fun h => ⟨(hA7 h).1.ext hEn (by simp), (hA7 h).2⟩, trivial⟩, fun h => ?_⟩
       rw [show setS D 6 8 = D 8 from rfl, hDf] at h; cases h
      ·rintro D x12_7 w' ⟨hE, hA, hB⟩ hDi hdp hnd
       have hDf : D 8 = false := hnd 8 (by simp) (by decide)
       obtain ⟨hA7, _⟩ := hA hDf
       have hEn : Ext [] w' (w'.alloc (.cells #[.int .u64 0, .int .u64 0] 110)) := (Ext.refl _ _).alloc _
       refine upon_box (nb := w'.heap.size) (cs := #[.int .u64 0, .int .u64 0]) (T := 110) (d := (some 13)) (by kernel_rfl) rfl ⟨(w'.heap.size), by kernel_rfl, by kernel_rfl, hE.trans0 hEn, fun _ => ⟨fun _ => ⟨Blk.new _ _ _, hE.size⟩, trivial⟩, fun h => ?_⟩
       rw [show setS D 7 8 = D 8 from rfl, hDf] at h; cases h
      ·rintro D x12_7 w' ⟨hE, hA, hB⟩ hDi hdp hnd
       obtain ⟨hA7, _⟩ := hA hDi
       obtain ⟨hf7, hs7⟩ := hA7 (hdp 7 (by simp) (by decide))
       refine upon_store (b := x12_7) (off := 0) (vs := [.int .u64 ((un fx (hdS S.nl ff es (row (p.r.drop (k + 1)))).1).1 : Int), .int .u64 ((un fx (hdS S.nl ff es (row (p.r.drop (k + 1)))).1).2 : Int)]) (by kernel_rfl) hf7 (by simp) ⟨x12_7, by kernel_rfl, by kernel_rfl, hE.updIn (.inr hs7) _ _, fun h => ?_, fun _ => ⟨⟨hf7.upd _ _, hs7⟩, trivial⟩⟩
       rw [setS_self] at h; cases h
     rintro D x12_7 a wz169 hS hall ⟨hEz169, _, hB⟩
     obtain ⟨⟨hz169_7, hy169_7⟩, _⟩ := hB (hall 8 (by simp))
     have hB176 := hB96.ext hEz169 (by simp)
     have hB177 := hB97.ext hEz169 (by simp)
     have hw169_7 : w33.heap.size ≤ x12_7 := Nat.le_trans hE98.size hy169_7
     have hE179 := hE98.trans0 hEz169
     replace hS := hS.kp [(0, Sl gw S.ns.length cw), (1, (Pv sb)), (2, (Pv tb)), (15, S.pv), (16, I6 S.ps.length), (17, I6 i), (8, (Pv wl5.heap.size)), (22, p.rv), (23, I6 p.r.length), (24, I6 k), (6, .bool hr), (25, .bool (decide ((↑k : Int) < ↑p.r.length))), (10, (Pv wl44.heap.size)), (9, I6 k), (31, .bool false), (11, (Pv x9_10)), (12, .bool ((hdS S.nl ff es (row (p.r.drop (k + 1)))).2)), (42, .bool ((hdS S.nl ff es (row (p.r.drop (k + 1)))).2)), (13, (Pv x12_7))]
     refine hK168 _ _ <| sq fun K180 hK180 => ?_
     rcases (show (un fx (hdS S.nl ff es (row (p.r.drop (k + 1)))).1 = fx) ∨ (¬un fx (hdS S.nl ff es (row (p.r.drop (k + 1)))).1 = fx) from Decidable.em _) with h5 | h5
     ·
      refine fn3 [.q (.lds [.int .u64 ((un fx (hdS S.nl ff es (row (p.r.drop (k + 1)))).1).1 : Int), .int .u64 ((un fx (hdS S.nl ff es (row (p.r.drop (k + 1)))).1).2 : Int)]), .q .p, .q .p, .q (.ld (I6 x.2)), .q (.run ((Po gw (0 + x.2.toNat * 2)))), .q (.lds [.int .u64 ↑fx.1, .int .u64 ↑fx.2]), .q (.run (.bool false))] [0, 0, 0, 0, 0, 0, 0] [0, 0, 0, 0, 0, 0, 0] [0, 0, 0, 4, 14, 30, 63] [] 0 ([(0, Sl gw S.ns.length cw), (1, (Pv sb)), (2, (Pv tb)), (15, S.pv), (16, I6 S.ps.length), (17, I6 i), (8, (Pv wl5.heap.size)), (22, p.rv), (23, I6 p.r.length), (24, I6 k), (6, .bool hr), (25, .bool (decide ((↑k : Int) < ↑p.r.length))), (10, (Pv wl44.heap.size)), (9, I6 k), (31, .bool false), (11, (Pv x9_10)), (12, .bool ((hdS S.nl ff es (row (p.r.drop (k + 1)))).2)), (42, .bool ((hdS S.nl ff es (row (p.r.drop (k + 1)))).2)), (13, (Pv x12_7)), (57, .agg #[.int .u64 ((un fx (hdS S.nl ff es (row (p.r.drop (k + 1)))).1).1 : Int), .int .u64 ((un fx (hdS S.nl ff es (row (p.r.drop (k + 1)))).1).2 : Int)]), (58, Sl gw S.ns.length cw), (59, (Po wl44.heap.size 1)), (60, I6 x.2), (61, (Po gw (0 + x.2.toNat * 2))), (62, .agg #[.int .u64 ↑fx.1, .int .u64 ↑fx.2]), (63, .bool false)]) [wz169.drew] wz169.drew (fun w' => [(0, [w'.cell? ⟨x12_7, 0, none⟩ = some (.int .u64 ((un fx (hdS S.nl ff es (row (p.r.drop (k + 1)))).1).1 : Int)), w'.cell? ⟨x12_7, 1, none⟩ = some (.int .u64 ((un fx (hdS S.nl ff es (row (p.r.drop (k + 1)))).1).2 : Int))]), (3, [w'.cell? ⟨wl44.heap.size, 1, none⟩ = some (I6 x.2)]), (4, [Rv (Instr.indexAt 103 (Sl gw S.ns.length cw) (I6 x.2)) ((Po gw (0 + x.2.toNat * 2))) w']), (5, [w'.cell? ⟨gw, 0 + x.2.toNat * 2, none⟩ = some (.int .u64 ↑fx.1), w'.cell? ⟨gw, 0 + x.2.toNat * 2 + 1, none⟩ = some (.int .u64 ↑fx.2)]), (6, [Rv (do eqGuard .neq 110 (.tmp 57) (.tmp 62) (.agg #[.int .u64 ((un fx (hdS S.nl ff es (row (p.r.drop (k + 1)))).1).1 : Int), .int .u64 ((un fx (hdS S.nl ff es (row (p.r.drop (k + 1)))).1).2 : Int)]) (.agg #[.int .u64 ↑fx.1, .int .u64 ↑fx.2]); binOp .neq 110 (.agg #[.int .u64 ((un fx (hdS S.nl ff es (row (p.r.drop (k + 1)))).1).1 : Int), .int .u64 ((un fx (hdS S.nl ff es (row (p.r.drop (k + 1)))).1).2 : Int)]) (.agg #[.int .u64 ↑fx.1, .int .u64 ↑fx.2])) (.bool false) w'])]) [0, 1, 2, 15, 16, 17, 8, 22, 23, 24, 6, 25, 10, 9, 31, 11, 12, 42, 13] [] hS (fun _ => by kernel_rfl) ?_ ?_ ?_
      ·intro e w' hw
       refine (.c ?_ (.c ?_ (.c ?_ (.c ?_ (.c ?_ .nil)))))
       ·intro h1 h2
        obtain rfl := Nat.le_antisymm h2 h1
        obtain rfl : w' = wz169.drew := hw.trans (by kernel_rfl)
        exact (.c ((hz169_7.drew : Blk wz169.drew x12_7 110 (#[.int .u64 ((un fx (hdS S.nl ff es (row (p.r.drop (k + 1)))).1).1 : Int), .int .u64 ((un fx (hdS S.nl ff es (row (p.r.drop (k + 1)))).1).2 : Int)])).cell 0 rfl) (.c ((hz169_7.drew : Blk wz169.drew x12_7 110 (#[.int .u64 ((un fx (hdS S.nl ff es (row (p.r.drop (k + 1)))).1).1 : Int), .int .u64 ((un fx (hdS S.nl ff es (row (p.r.drop (k + 1)))).1).2 : Int)])).cell 1 rfl) .nil))
       ·intro h1 h2
        obtain rfl := Nat.le_antisymm h2 h1
        obtain rfl : w' = wz169.drew := hw.trans (by kernel_rfl)
        exact (.c ((hB177.drew : Blk wz169.drew wl44.heap.size 61 (#[I6 x.1, I6 x.2])).cell 1 rfl) .nil)
       ·exact fun _ _ => (.c (ixz 110 2 x.2) .nil)
       ·intro h1 h2
        obtain rfl := Nat.le_antisymm h2 h1
        obtain rfl : w' = wz169.drew := hw.trans (by kernel_rfl)
        exact (.c ((hB176.drew : OwnR wz169.drew 110 2 gw cw S.ns.length (secs fs2)).cellAt _ (by rw [Nat.zero_add]; exact secs_at (i := 0) hfx (by omega))) (.c ((hB176.drew : OwnR wz169.drew 110 2 gw cw S.ns.length (secs fs2)).cellAt _ (by rw [Nat.zero_add]; exact secs_at (i := 1) hfx (by omega))) .nil))
       ·exact fun _ _ => (.c ((bin_arr2 (e := 108) (kk := .u64) (by kernel_rfl) (by kernel_rfl) (by kernel_rfl) (by kernel_rfl) (by kernel_rfl) (by rw [se_eq]; simp only [h5, decide_true, decide_false, Bool.not_true, Bool.not_false]))) .nil)
      ·refine .nil
      rintro a w182 hS hw183
      replace hw183 : w182 = wz169.drew := hw183.trans (by kernel_rfl)
      have hB190 := OwnR.at' hw183 (hB176.drew)
      have hE194 : Ext [gw] w33 w182 := by rw [hw183]; exact hE179.drew
      replace hS := hS.kp [(0, Sl gw S.ns.length cw), (1, (Pv sb)), (2, (Pv tb)), (15, S.pv), (16, I6 S.ps.length), (17, I6 i), (8, (Pv wl5.heap.size)), (22, p.rv), (23, I6 p.r.length), (24, I6 k), (6, .bool hr), (25, .bool (decide ((↑k : Int) < ↑p.r.length))), (10, (Pv wl44.heap.size)), (9, I6 k), (31, .bool false), (11, (Pv x9_10)), (12, .bool ((hdS S.nl ff es (row (p.r.drop (k + 1)))).2)), (42, .bool ((hdS S.nl ff es (row (p.r.drop (k + 1)))).2)), (13, (Pv x12_7)), (63, .bool false)]
      refine hK180 _ _ ?_
      refine cond_f hS rfl ?_
      refine wpIn_skip <| inBlock_normal <| hK54 _ _ <| rgn 2 <| sd ww [.as (I6 ((k + 1 : Nat) : Int)), .p] [Value.int .i64 (IntKind.i64.wrap (↑k + 1)) = I6 ((k + 1 : Nat) : Int)] [(24, I6 ((k + 1 : Nat) : Int))] [] 2 0 hS (.c ((by rw [show (↑k + 1 : Int) = ((k + 1 : Nat) : Int) from by omega]; exact as_i64 (by omega))) .nil) fun a hS => seg_end ?_
      exact ⟨(k + 1, fs2, hr), ⟨hS.kp [(0, Sl gw S.ns.length cw), (1, (Pv sb)), (2, (Pv tb)), (15, S.pv), (16, I6 S.ps.length), (17, I6 i), (8, (Pv wl5.heap.size)), (22, p.rv), (23, I6 p.r.length), (24, I6 ((k + 1 : Nat) : Int)), (6, .bool hr)], hE194, by omega, hB190, hQ.pass (fun y hy h3 => by rw [hxk] at hy; cases hy; rw [gF_at hfx, hwt]; exact h5)⟩, by simp only; omega⟩
     ·
      have hsl : (secs fs2).length = S.ns.length * 2 := by rw [secs_len, hfl2]
      refine fn3 [.q (.lds [.int .u64 ((un fx (hdS S.nl ff es (row (p.r.drop (k + 1)))).1).1 : Int), .int .u64 ((un fx (hdS S.nl ff es (row (p.r.drop (k + 1)))).1).2 : Int)]), .q .p, .q .p, .q (.ld (I6 x.2)), .q (.run ((Po gw (0 + x.2.toNat * 2)))), .q (.lds [.int .u64 ↑fx.1, .int .u64 ↑fx.2]), .q (.run (.bool true))] [0, 0, 0, 0, 0, 0, 0] [0, 0, 0, 0, 0, 0, 0] [0, 0, 0, 4, 14, 30, 63] [] 0 ([(0, Sl gw S.ns.length cw), (1, (Pv sb)), (2, (Pv tb)), (15, S.pv), (16, I6 S.ps.length), (17, I6 i), (8, (Pv wl5.heap.size)), (22, p.rv), (23, I6 p.r.length), (24, I6 k), (6, .bool hr), (25, .bool (decide ((↑k : Int) < ↑p.r.length))), (10, (Pv wl44.heap.size)), (9, I6 k), (31, .bool false), (11, (Pv x9_10)), (12, .bool ((hdS S.nl ff es (row (p.r.drop (k + 1)))).2)), (42, .bool ((hdS S.nl ff es (row (p.r.drop (k + 1)))).2)), (13, (Pv x12_7)), (57, .agg #[.int .u64 ((un fx (hdS S.nl ff es (row (p.r.drop (k + 1)))).1).1 : Int), .int .u64 ((un fx (hdS S.nl ff es (row (p.r.drop (k + 1)))).1).2 : Int)]), (58, Sl gw S.ns.length cw), (59, (Po wl44.heap.size 1)), (60, I6 x.2), (61, (Po gw (0 + x.2.toNat * 2))), (62, .agg #[.int .u64 ↑fx.1, .int .u64 ↑fx.2]), (63, .bool true)]) [wz169.drew] wz169.drew (fun w' => [(0, [w'.cell? ⟨x12_7, 0, none⟩ = some (.int .u64 ((un fx (hdS S.nl ff es (row (p.r.drop (k + 1)))).1).1 : Int)), w'.cell? ⟨x12_7, 1, none⟩ = some (.int .u64 ((un fx (hdS S.nl ff es (row (p.r.drop (k + 1)))).1).2 : Int))]), (3, [w'.cell? ⟨wl44.heap.size, 1, none⟩ = some (I6 x.2)]), (4, [Rv (Instr.indexAt 103 (Sl gw S.ns.length cw) (I6 x.2)) ((Po gw (0 + x.2.toNat * 2))) w']), (5, [w'.cell? ⟨gw, 0 + x.2.toNat * 2, none⟩ = some (.int .u64 ↑fx.1), w'.cell? ⟨gw, 0 + x.2.toNat * 2 + 1, none⟩ = some (.int .u64 ↑fx.2)]), (6, [Rv (do eqGuard .neq 110 (.tmp 57) (.tmp 62) (.agg #[.int .u64 ((un fx (hdS S.nl ff es (row (p.r.drop (k + 1)))).1).1 : Int), .int .u64 ((un fx (hdS S.nl ff es (row (p.r.drop (k + 1)))).1).2 : Int)]) (.agg #[.int .u64 ↑fx.1, .int .u64 ↑fx.2]); binOp .neq 110 (.agg #[.int .u64 ((un fx (hdS S.nl ff es (row (p.r.drop (k + 1)))).1).1 : Int), .int .u64 ((un fx (hdS S.nl ff es (row (p.r.drop (k + 1)))).1).2 : Int)]) (.agg #[.int .u64 ↑fx.1, .int .u64 ↑fx.2])) (.bool true) w'])]) [0, 1, 2, 15, 16, 17, 8, 22, 23, 24, 6, 25, 10, 9, 31, 11, 12, 42, 13] [] hS (fun _ => by kernel_rfl) ?_ ?_ ?_
      ·intro e w' hw
       refine (.c ?_ (.c ?_ (.c ?_ (.c ?_ (.c ?_ .nil)))))
       ·intro h1 h2
        obtain rfl := Nat.le_antisymm h2 h1
        obtain rfl : w' = wz169.drew := hw.trans (by kernel_rfl)
        exact (.c ((hz169_7.drew : Blk wz169.drew x12_7 110 (#[.int .u64 ((un fx (hdS S.nl ff es (row (p.r.drop (k + 1)))).1).1 : Int), .int .u64 ((un fx (hdS S.nl ff es (row (p.r.drop (k + 1)))).1).2 : Int)])).cell 0 rfl) (.c ((hz169_7.drew : Blk wz169.drew x12_7 110 (#[.int .u64 ((un fx (hdS S.nl ff es (row (p.r.drop (k + 1)))).1).1 : Int), .int .u64 ((un fx (hdS S.nl ff es (row (p.r.drop (k + 1)))).1).2 : Int)])).cell 1 rfl) .nil))
       ·intro h1 h2
        obtain rfl := Nat.le_antisymm h2 h1
        obtain rfl : w' = wz169.drew := hw.trans (by kernel_rfl)
        exact (.c ((hB177.drew : Blk wz169.drew wl44.heap.size 61 (#[I6 x.1, I6 x.2])).cell 1 rfl) .nil)
       ·exact fun _ _ => (.c (ixz 110 2 x.2) .nil)
       ·intro h1 h2
        obtain rfl := Nat.le_antisymm h2 h1
        obtain rfl : w' = wz169.drew := hw.trans (by kernel_rfl)
        exact (.c ((hB176.drew : OwnR wz169.drew 110 2 gw cw S.ns.length (secs fs2)).cellAt _ (by rw [Nat.zero_add]; exact secs_at (i := 0) hfx (by omega))) (.c ((hB176.drew : OwnR wz169.drew 110 2 gw cw S.ns.length (secs fs2)).cellAt _ (by rw [Nat.zero_add]; exact secs_at (i := 1) hfx (by omega))) .nil))
       ·exact fun _ _ => (.c ((bin_arr2 (e := 108) (kk := .u64) (by kernel_rfl) (by kernel_rfl) (by kernel_rfl) (by kernel_rfl) (by kernel_rfl) (by rw [se_eq]; simp only [h5, decide_true, decide_false, Bool.not_true, Bool.not_false]))) .nil)
      ·refine .nil
      rintro a w196 hS hw197
      replace hw197 : w196 = wz169.drew := hw197.trans (by kernel_rfl)
      have hB204 := OwnR.at' hw197 (hB176.drew)
      have hB205 := Blk.at' hw197 (hB177.drew)
      have hB207 := Blk.at' hw197 (hz169_7.drew)
      have hE208 : Ext [gw] w33 w196 := by rw [hw197]; exact hE179.drew
      replace hS := hS.kp [(0, Sl gw S.ns.length cw), (1, (Pv sb)), (2, (Pv tb)), (15, S.pv), (16, I6 S.ps.length), (17, I6 i), (8, (Pv wl5.heap.size)), (22, p.rv), (23, I6 p.r.length), (24, I6 k), (6, .bool hr), (25, .bool (decide ((↑k : Int) < ↑p.r.length))), (10, (Pv wl44.heap.size)), (9, I6 k), (31, .bool false), (11, (Pv x9_10)), (12, .bool ((hdS S.nl ff es (row (p.r.drop (k + 1)))).2)), (42, .bool ((hdS S.nl ff es (row (p.r.drop (k + 1)))).2)), (13, (Pv x12_7)), (63, .bool true)]
      refine hK180 _ _ ?_
      refine cond_t hS rfl ?_
      refine rgn 7 <| sd ww [.p, .p, .ld (I6 x.2), .lds [.int .u64 ((un fx (hdS S.nl ff es (row (p.r.drop (k + 1)))).1).1 : Int), .int .u64 ((un fx (hdS S.nl ff es (row (p.r.drop (k + 1)))).1).2 : Int)], .run ((Po gw (0 + x.2.toNat * 2)))] [_, _, _, Rv (Instr.indexAt 103 (Sl gw S.ns.length cw) (I6 x.2)) ((Po gw (0 + x.2.toNat * 2))) w196] [(67, .agg #[.int .u64 ((un fx (hdS S.nl ff es (row (p.r.drop (k + 1)))).1).1 : Int), .int .u64 ((un fx (hdS S.nl ff es (row (p.r.drop (k + 1)))).1).2 : Int)]), (68, (Po gw (0 + x.2.toNat * 2)))] [] 5 2 hS (hB205.k 1 (hB207.k 0 (hB207.k 1 (.c (ixz 110 2 x.2) .nil)))) fun a hS => eff_store_ownN ww (r := 1) (b := gw) (off := 0 + x.2.toNat * 2) (vs := [.int .u64 ((un fx (hdS S.nl ff es (row (p.r.drop (k + 1)))).1).1 : Int), .int .u64 ((un fx (hdS S.nl ff es (row (p.r.drop (k + 1)))).1).2 : Int)]) (xs := (secs fs2)) hS (by kernel_rfl) hB204 (by simp only [List.length_cons, List.length_nil]; omega) fun a ws209 hOs209 hEs209 hsz209 hS => ?_
      have hE219 : Ext [gw] w33 ws209 := hE208.trans hEs209 (fun b hb => by simp at hb; subst hb; exact .inl (by simp))
      refine sg ww [.p] [] [(0, Sl gw S.ns.length cw), (1, (Pv sb)), (2, (Pv tb)), (15, S.pv), (16, I6 S.ps.length), (17, I6 i), (8, (Pv wl5.heap.size)), (22, p.rv), (23, I6 p.r.length), (24, I6 k), (6, .bool true), (25, .bool (decide ((↑k : Int) < ↑p.r.length))), (10, (Pv wl44.heap.size)), (9, I6 k), (31, .bool false), (11, (Pv x9_10)), (12, .bool ((hdS S.nl ff es (row (p.r.drop (k + 1)))).2)), (42, .bool ((hdS S.nl ff es (row (p.r.drop (k + 1)))).2)), (13, (Pv x12_7)), (63, .bool true)] 7 0 hS .nil fun a hS => seg_end <| inBlock_normal <| hK54 _ _ <| rgn 2 <| sd ww [.as (I6 ((k + 1 : Nat) : Int)), .p] [Value.int .i64 (IntKind.i64.wrap (↑k + 1)) = I6 ((k + 1 : Nat) : Int)] [(24, I6 ((k + 1 : Nat) : Int))] [] 2 0 hS (.c ((by rw [show (↑k + 1 : Int) = ((k + 1 : Nat) : Int) from by omega]; exact as_i64 (by omega))) .nil) fun a hS => seg_end ?_
      have hgs := hOs209
      rw [secs_setL _ _ (un fx (hdS S.nl ff es (row (p.r.drop (k + 1)))).1) (by omega), ← hwt] at hgs
      exact ⟨(k + 1, (fs2.set x.2.toNat (un fx (want S.nl ff es fs2 p k))), true), ⟨hS.kp [(0, Sl gw S.ns.length cw), (1, (Pv sb)), (2, (Pv tb)), (15, S.pv), (16, I6 S.ps.length), (17, I6 i), (8, (Pv wl5.heap.size)), (22, p.rv), (23, I6 p.r.length), (24, I6 ((k + 1 : Nat) : Int)), (6, .bool true)], hE219, by omega, hgs, hQ.set (hQ.h.snd.set hK.hes hK.hF hK.hs.ok hpm hsm hxk h1 hfx) (muF_set hfx (ok_un (hfo fx (List.mem_of_getElem? hfx)) (want_ok hK.hs.ok hfo hsm k)) (by rw [hwt]; exact h5))⟩, by simp only; omega⟩
   ·
    refine rgn 3 <| sd ww [.p, .ld (I6 x.1), .as (.bool true)] [_, Value.bool (((x.1 : Int) != 3)) = .bool true] [(31, .bool true)] [] 3 0 hS (hB84.k 0 (.c (as_ne_t (by omega)) .nil)) fun a hS => sge hK87 ?_
    refine cond_t hS rfl ?_
    refine wpIn_exit <| then_exit <| inBlock_hit <| hK54 _ _ <| rgn 2 <| sd ww [.as (I6 ((k + 1 : Nat) : Int)), .p] [Value.int .i64 (IntKind.i64.wrap (↑k + 1)) = I6 ((k + 1 : Nat) : Int)] [(24, I6 ((k + 1 : Nat) : Int))] [] 2 0 hS (.c ((by rw [show (↑k + 1 : Int) = ((k + 1 : Nat) : Int) from by omega]; exact as_i64 (by omega))) .nil) fun a hS => seg_end ?_
    exact ⟨(k + 1, fs2, hr), ⟨hS.kp [(0, Sl gw S.ns.length cw), (1, (Pv sb)), (2, (Pv tb)), (15, S.pv), (16, I6 S.ps.length), (17, I6 i), (8, (Pv wl5.heap.size)), (22, p.rv), (23, I6 p.r.length), (24, I6 ((k + 1 : Nat) : Int)), (6, .bool hr)], hE85, by omega, hB83, hQ.pass (fun y hy h3 => by rw [hxk] at hy; cases hy; exact absurd h3 h1)⟩, by simp only; omega⟩
  ·
   replace hb53 := of_decide_eq_false hb53
   have hEl44 : Ext [gw] w wl44 := hE42.trans hXl44 (fun b hbM => by simp at hbM; rw [hbM]; exact .inl (by simp))
   have hke : k = p.r.length := by omega
   refine xt2 <| inBlock_normal <| hK14 _ _ <| rgn 2 <| sd ww [.as (I6 (↑i + 1)), .p] [_] [(17, I6 (↑i + 1))] [] 2 0 hS (as6 (↑i + 1)) fun a hS => seg_end ?_
   exact ⟨(i + 1, fs2, hr), ⟨hS.kp [(0, Sl gw S.ns.length cw), (1, (Pv sb)), (2, (Pv tb)), (15, S.pv), (16, I6 S.ps.length), (17, I6 (↑i + 1)), (6, .bool hr)], hEl44, by omega, hg2, (show FoI S es ff i p p.r.length fs fs2 hr from hke ▸ hQ).done hpi⟩, by simp only; omega⟩
 ·
  replace hb13 := of_decide_eq_false hb13
  have hEl5 : Ext [gw] w wl5 := hE0.trans hXl5 (fun b hbM => by simp at hbM; rw [hbM]; exact .inl (by simp))
  have hie : i = S.ps.length := by omega
  refine xt2 <| hK3 _ _ <| sdq 4 [.p, .p, .p, .p] [] [(4, Sl gw S.ns.length cw), (5, .bool gr)] [] hS .nil fun a hS => wpIn_ret ?_
  refine ret2 hS Tryd.results57 rfl rfl ?_
  exact ⟨fs1, gr, rfl, hg1, hie ▸ hP, hEl5⟩
end Go.Proofs.YtkkpghlcmcaoiaaDoor
