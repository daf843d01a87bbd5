import Derived.Test.YtkkpghlcmcaoiaaDoorS4
import Derived.Test.YtkkpghlcmcaoiaaDoorS8
import Derived.Test.YtkkpghlcmcaoiaaDoorVd
namespace Go.Proofs.YtkkpghlcmcaoiaaDoor
open Go.Vc Go.Gm
theorem known1_any {w0 w : World} {S : Sp} (hG : SpOk w0 S) (hb : Ext [] w0 w) (hI : Ix S) (hlx : S.lx.length ≤ 64) {ce cf ge gf gb tb sb : Nat} {fv : Value} {es : List Bool} {fs : List Se} (hsb : Blk w sb 26 S.ca) (htb : Blk w tb 106 #[Pv gb]) (hgb : Blk w gb 105 #[S.lv, S.nv, I6 S.st, S.pv, Sl ge S.ns.length ce, fv]) (hem : OwnR w 4 1 ge ce S.ns.length (bls es)) (hfs : OwnR w 110 2 gf cf S.ns.length (secs fs)) (hgn : w0.heap.size ≤ gf) (hbn : w0.heap.size ≤ gb) (hes : IsD S.g false S.ns.length es) (hs : FsS S es fs) :
  Calls Tryd.prog 90 #[Sl gf S.ns.length cf, (Pv tb), (Pv sb)] w fun e w' => ∃ fs' gr, e = .returned (.tuple #[Sl gf S.ns.length cf, .bool gr]) ∧ Blk w' gb 105 #[S.lv, S.nv, I6 S.st, S.pv, Sl ge S.ns.length ce, Sl gf S.ns.length cf] ∧ OwnR w' 110 2 gf cf S.ns.length (secs fs') ∧ FsP S es S.ps.length fs fs' gr ∧ Ext [gf, gb] w w' := by
 have hlmax := hG.lmax
 have hnmax := hG.nmax
 have hpmax := hG.pmax
 refine cbd 52 [(0, Sl gf S.ns.length cf), (1, (Pv tb)), (2, (Pv sb))] Tryd.func90 rfl fun a hS => ?_
 have hE0 : Ext [gf, gb] w w := Ext.refl _ _
 refine sdq 2 [.p, .p] [] [(4, .slice none 0 0), (5, .bool false)] [] hS .nil fun a hS => sq fun K2 hK2 => rgn 5 <| sd ww [.ld ((Pv gb)), .p, .p, .p] [_] [(13, Sl gf S.ns.length cf), (15, (Po gb 5))] [] 4 1 hS (htb.k 0 .nil) fun a hS => est 0 gb 5 [Sl gf S.ns.length cf] hS hgb fun a w3 hw4 hS => ?_
 have hB5 := Blk.at' hw4 (hsb.updNe (Blk.ne_type hgb hsb (by decide)) _ _)
 have hB6 := Blk.at' hw4 (htb.updNe (Blk.ne_type hgb htb (by decide)) _ _)
 have hB7 : Blk w3 gb 105 (#[S.lv, S.nv, I6 S.st, S.pv, Sl ge S.ns.length ce, Sl gf S.ns.length cf]) := by rw [hw4]; exact hgb.upd _ _
 have hB8 := OwnR.at' hw4 (hem.updNe ((OwnR.ne_type hem hgb (by decide)).symm) _ _)
 have hB9 := OwnR.at' hw4 (hfs.updNe ((OwnR.ne_type hfs hgb (by decide)).symm) _ _)
 have hE10 : Ext [gf, gb] w w3 := by rw [hw4]; exact hE0.updIn (.inl (by simp)) _ _
 refine sge hK2 <| sdq 1 [.p] [] [(6, .bool false)] [] hS .nil fun a hS => sq fun K12 hK12 => sdq 4 [.p, .ld (S.pv), .run (I6 S.ps.length), .p] [_, Rv (Builtin.len_ #[24] 3 #[S.pv]) (I6 S.ps.length) w3] [(17, S.pv), (18, I6 S.ps.length), (19, I6 0)] [] hS (hB5.k 3 (.c (rlr 73 hG.prods) .nil)) fun a hS => wpIn_block ?_
 have hbl14 := (hb.trans hE10 (fun b hbM => by simp at hbM; exact hbM.elim (fun hbM => by rw [hbM]; exact .inr hgn) fun hbM => by rw [hbM]; exact .inr hbn))
 refine loop_ghost (fun ((i, fs1, gr) : Nat × (List Se) × Bool) a' w' => St 52 [] [(0, Sl gf S.ns.length cf), (1, (Pv tb)), (17, S.pv), (18, I6 S.ps.length), (19, I6 i), (6, .bool gr)] a' ∧ Ext [gf] w3 w' ∧ i ≤ S.ps.length ∧ OwnR w' 110 2 gf cf S.ns.length (secs fs1) ∧ FsP S es i fs fs1 gr) (fun ((i, fs1, gr) : Nat × (List Se) × Bool) => S.ps.length - i) (0, fs, false) ⟨hS.keepTo [0, 1, 17, 18, 19, 6] (by kernel_rfl), Ext.refl _ _, by omega, hB9, .start hs⟩ ?_
 rintro ⟨i, fs1, gr⟩ a wl14 ⟨hS, hXl14, hi, hg1, hP⟩
 have hB16 := hB6.ext hXl14 (by simpa using (OwnR.ne_type hB9 hB6 (by decide)).symm)
 have hB17 := hB7.ext hXl14 (by simpa using (OwnR.ne_type hB9 hB7 (by decide)).symm)
 have hB18 := hB8.ext hXl14 (by simpa using (OwnR.neR hB8 hB9 (by decide)))
 refine sdq 1 [.p] [] [(20, .bool (decide ((↑i : Int) < ↑S.ps.length)))] [] hS .nil fun a hS => sq fun K20 hK20 => ?_
 refine cond_b hS rfl (fun hb21 => ?_) (fun hb21 => ?_)
 ·
  replace hb21 := of_decide_eq_true hb21
  obtain ⟨p, hpi⟩ : ∃ p, S.ps[i]? = some p := gE
  have hpm := List.mem_of_getElem? hpi
  have hrm := hG.rmax p hpm
  have hpl := hI.pl hpm
  have hfl := hP.snd.len
  obtain ⟨fx, hfx⟩ : ∃ fx, fs1[p.l.toNat]? = some fx := gE
  refine wpIn_skip <| hK20 _ _ <| sq fun K22 hK22 => wpIn_block <| sq fun K23 hK23 => rgn 4 <| sd ww [.run ((Po (bof S.pv) (oof S.pv + i * 2))), .lds [I6 p.l, p.rv]] [Rv (Instr.indexAt 24 (S.pv) (I6 i)) ((Po (bof S.pv) (oof S.pv + i * 2))) wl14, wl14.cell? ⟨bof S.pv, oof S.pv + i * 2, none⟩ = some (I6 p.l), wl14.cell? ⟨bof S.pv, oof S.pv + i * 2 + 1, none⟩ = some (p.rv)] [(22, .agg #[I6 p.l, p.rv])] [] 2 2 hS (.c (ixr 73 i hG.prods) (.c ((hG.prods.ext0 (hbl14.t1 hXl14 hgn)).cellAt (i * 2 + 0) (by omega) (pcells_at S.ps i 0 p hpi (by omega))) (.c ((hG.prods.ext0 (hbl14.t1 hXl14 hgn)).cellAt (i * 2 + 1) (by omega) (pcells_at S.ps i 1 p hpi (by omega))) .nil))) fun a hS => ebx 1 #[I6 0, .slice none 0 0] 73 (some 8) hS fun a w24 hw25 hS => ?_
  have hn27 := Nat.ne_of_lt hB16.lt
  have hn28 := Nat.ne_of_lt hB17.lt
  have hn29 := Nat.ne_of_lt hB18.lt
  have hn30 := Nat.ne_of_lt hg1.lt
  have hB32 := Blk.at' hw25 (hB16.alloc _)
  have hB33 := Blk.at' hw25 (hB17.alloc _)
  have hB34 := OwnR.at' hw25 (hB18.alloc _)
  have hB35 := OwnR.at' hw25 (hg1.alloc _)
  have hB36 := Blk.nw hw25
  have hs37 := hXl14.size
  have hE38 := hXl14.al hw25
  refine est 0 wl14.heap.size 0 [I6 p.l, p.rv] hS hB36 fun a w39 hw40 hS => ?_
  have hB42 := Blk.at' hw40 (hB32.updNe (Ne.symm hn27) _ _)
  have hB43 := Blk.at' hw40 (hB33.updNe (Ne.symm hn28) _ _)
  have hB44 := OwnR.at' hw40 (hB34.updNe (Ne.symm hn29) _ _)
  have hB45 := OwnR.at' hw40 (hB35.updNe (Ne.symm hn30) _ _)
  have hB46 : Blk w39 wl14.heap.size 73 (#[I6 p.l, p.rv]) := hB36.up hw40
  have hE47 := hE38.ui hw40 hs37
  refine sge hK23 <| sq fun K48 hK48 => rgn 10 <| sd ww [.ld ((Pv gb)), .p, .ld (p.rv)] [_, _] [(24, (Pv gb)), (26, p.rv)] [] 3 7 hS (hB42.k 0 (hB46.k 1 .nil)) fun a hS => ecl 6 (some 27) hS Tryd.call58 #[(Pv gb), p.rv] (heads_any hG (hbl14.t1 hE47 hgn) hB43 hB44 hB45 hes.len hP.snd.len hP.snd.ok hlx (hG.right p hpm) hrm (hI.right p hpm)) ?_
  rintro _ wc49 ⟨rfl, hEc49⟩
  refine ⟨_, rfl, fun a hS => ?_⟩
  have hB54 := hB45.ext hEc49 (by simp)
  have hB55 := hB46.ext hEc49 (by simp)
  have hE56 := hE47.trans0 hEc49
  refine sd ww [.p, .p, .p] [] [(28, .agg #[.int .u64 (((hdS S.nl fs1 es (row p.r)).1).1 : Int), .int .u64 (((hdS S.nl fs1 es (row p.r)).1).2 : Int)]), (29, .bool ((hdS S.nl fs1 es (row p.r)).2))] [] 7 3 hS .nil fun a hS => ebx 2 #[.int .u64 0, .int .u64 0] 110 (some 9) hS fun a w57 hw58 hS => ?_
  have hn63 := Nat.ne_of_lt hB54.lt
  have hn64 := Nat.ne_of_lt hB55.lt
  have hB69 := OwnR.at' hw58 (hB54.alloc _)
  have hB70 := Blk.at' hw58 (hB55.alloc _)
  have hB71 := Blk.nw hw58
  have hs72 := hE56.size
  have hE73 := hE56.al hw58
  refine est 1 wc49.heap.size 0 [.int .u64 (((hdS S.nl fs1 es (row p.r)).1).1 : Int), .int .u64 (((hdS S.nl fs1 es (row p.r)).1).2 : Int)] hS hB71 fun a w74 hw75 hS => ?_
  have hB80 := OwnR.at' hw75 (hB69.updNe (Ne.symm hn63) _ _)
  have hB81 := Blk.at' hw75 (hB70.updNe (Ne.symm hn64) _ _)
  have hB82 : Blk w74 wc49.heap.size 110 (#[.int .u64 (((hdS S.nl fs1 es (row p.r)).1).1 : Int), .int .u64 (((hdS S.nl fs1 es (row p.r)).1).2 : Int)]) := hB71.up hw75
  have hE83 := hE73.ui hw75 hs72
  refine sd ww [.p] [] [] [] 10 0 hS .nil fun a hS => sge hK48 <| sq fun K84 hK84 => ?_
  refine region_set (G := Nat) ww [.q .p, .q .p, .q (.ld (I6 p.l)), .q (.run ((Po gf (0 + p.l.toNat * 2)))), .q (.lds [.int .u64 ↑fx.1, .int .u64 ↑fx.2]), .q (.lds [.int .u64 (((hdS S.nl fs1 es (row p.r)).1).1 : Int), .int .u64 (((hdS S.nl fs1 es (row p.r)).1).2 : Int)]), .e, .e, .e] [0, 0, 2, 7, 15, 0, 63, 0, 255] [6, 7, 8] (fun x7_7 => ([(0, Sl gf S.ns.length cf), (1, (Pv tb)), (17, S.pv), (18, I6 S.ps.length), (19, I6 i), (6, .bool gr), (20, .bool (decide ((↑i : Int) < ↑S.ps.length))), (8, (Pv wl14.heap.size)), (9, (Pv wc49.heap.size)), (30, Sl gf S.ns.length cf), (31, (Pv wl14.heap.size)), (32, I6 p.l), (33, (Po gf (0 + p.l.toNat * 2))), (34, .agg #[.int .u64 ↑fx.1, .int .u64 ↑fx.2]), (35, .agg #[.int .u64 (((hdS S.nl fs1 es (row p.r)).1).1 : Int), .int .u64 (((hdS S.nl fs1 es (row p.r)).1).2 : Int)]), (36, .agg #[.int .u64 ((un fx (hdS S.nl fs1 es (row p.r)).1).1 : Int), .int .u64 ((un fx (hdS S.nl fs1 es (row p.r)).1).2 : Int)]), (11, (Pv x7_7))] : Fm)) (fun D x7_7 w' => Ext [] w74 w' ∧ (D 8 = false → (D 7 = true → (Blk w' x7_7 110 (#[.int .u64 0, .int .u64 0]) ∧ w74.heap.size ≤ x7_7)) ∧ True) ∧ (D 8 = true → (Blk w' x7_7 110 (#[.int .u64 ((un fx (hdS S.nl fs1 es (row p.r)).1).1 : Int), .int .u64 ((un fx (hdS S.nl fs1 es (row p.r)).1).2 : Int)]) ∧ w74.heap.size ≤ x7_7) ∧ True)) (fun x7_7 w' => [(2, [w'.cell? ⟨wl14.heap.size, 0, none⟩ = some (I6 p.l)]), (3, [Rv (Instr.indexAt 103 (Sl gf S.ns.length cf) (I6 p.l)) ((Po gf (0 + p.l.toNat * 2))) w']), (4, [w'.cell? ⟨gf, 0 + p.l.toNat * 2, none⟩ = some (.int .u64 ↑fx.1), w'.cell? ⟨gf, 0 + p.l.toNat * 2 + 1, none⟩ = some (.int .u64 ↑fx.2)]), (5, [w'.cell? ⟨wc49.heap.size, 0, none⟩ = some (.int .u64 (((hdS S.nl fs1 es (row p.r)).1).1 : Int)), w'.cell? ⟨wc49.heap.size, 1, none⟩ = some (.int .u64 (((hdS S.nl fs1 es (row p.r)).1).2 : Int))])]) 0 [0, 1, 17, 18, 19, 6, 20, 8, 9] [] hS (by kernel_rfl) (by kernel_rfl) (by kernel_rfl) (by kernel_rfl) (fun x7_7 _ => by kernel_rfl) (by kernel_rfl) (by kernel_rfl) ⟨(Ext.refl _ _).drew, fun _ => ⟨fun h => (by cases h), trivial⟩, fun h => by cases h⟩ ?_ ?_ ?_
  ·rintro D x7_7 w' ⟨hE, _, _⟩ xq hxq _ _
   refine AllI.mem ?_ xq hxq
   exact (.c (.c (((hB81.ext hE (by simp)) : Blk w' wl14.heap.size 73 (#[I6 p.l, p.rv])).cell 0 rfl) .nil) (.c (.c (ixz 110 2 p.l) .nil) (.c (.c (((hB80.ext hE (by simp)) : OwnR w' 110 2 gf cf S.ns.length (secs fs1)).cellAt _ (by rw [Nat.zero_add]; exact secs_at (i := 0) hfx (by omega))) (.c (((hB80.ext hE (by simp)) : OwnR w' 110 2 gf cf S.ns.length (secs fs1)).cellAt _ (by rw [Nat.zero_add]; exact secs_at (i := 1) hfx (by omega))) .nil)) (.c (.c (((hB82.ext hE (by simp)) : Blk w' wc49.heap.size 110 (#[.int .u64 (((hdS S.nl fs1 es (row p.r)).1).1 : Int), .int .u64 (((hdS S.nl fs1 es (row p.r)).1).2 : Int)])).cell 0 rfl) (.c (((hB82.ext hE (by simp)) : Blk w' wc49.heap.size 110 (#[.int .u64 (((hdS S.nl fs1 es (row p.r)).1).1 : Int), .int .u64 (((hdS S.nl fs1 es (row p.r)).1).2 : Int)])).cell 1 rfl) .nil)) .nil))))
  ·refine (.c ?_ (.c ?_ (.c ?_ .nil)))
   ·rintro D x7_7 w' ⟨hE, hA, hB⟩ hDi hdp hnd
    have hDf : D 8 = false := hnd 8 (by simp) (by decide)
    obtain ⟨hA7, _⟩ := hA hDf
    refine upon_call (f := 59) (vs := [.agg #[.int .u64 ↑fx.1, .int .u64 ↑fx.2], .agg #[.int .u64 (((hdS S.nl fs1 es (row p.r)).1).1 : Int), .int .u64 (((hdS S.nl fs1 es (row p.r)).1).2 : Int)]]) (cap := #[]) (d := (some 36)) (by kernel_rfl) Tryd.call59 #[.agg #[.int .u64 ↑fx.1, .int .u64 ↑fx.2], .agg #[.int .u64 (((hdS S.nl fs1 es (row p.r)).1).1 : Int), .int .u64 (((hdS S.nl fs1 es (row p.r)).1).2 : Int)]] (by kernel_rfl) (with_any fx (hdS S.nl fs1 es (row p.r)).1 (hP.snd.ok fx (List.mem_of_getElem? hfx)) (hdS_ok hP.snd.ok (hI.small hlx hpm))) ?_
    rintro _ wn ⟨rfl, hEn⟩
    refine ⟨_, rfl, (x7_7), by kernel_rfl, by kernel_rfl, hE.trans0 hEn, fun _ => ⟨fun h => ⟨(hA7 h).1.ext hEn (by simp), (hA7 h).2⟩, trivial⟩, fun h => ?_⟩
    rw [show setS D 6 8 = D 8 from rfl, hDf] at h; cases h
   ·rintro D x7_7 w' ⟨hE, hA, hB⟩ hDi hdp hnd
    have hDf : D 8 = false := hnd 8 (by simp) (by decide)
    obtain ⟨hA7, _⟩ := hA hDf
    have hEn : Ext [] w' (w'.alloc (.cells #[.int .u64 0, .int .u64 0] 110)) := (Ext.refl _ _).alloc _
    refine upon_box (nb := w'.heap.size) (cs := #[.int .u64 0, .int .u64 0]) (T := 110) (d := (some 11)) (by kernel_rfl) rfl ⟨(w'.heap.size), by kernel_rfl, by kernel_rfl, hE.trans0 hEn, fun _ => ⟨fun _ => ⟨Blk.new _ _ _, hE.size⟩, trivial⟩, fun h => ?_⟩
    rw [show setS D 7 8 = D 8 from rfl, hDf] at h; cases h
   ·rintro D x7_7 w' ⟨hE, hA, hB⟩ hDi hdp hnd
    obtain ⟨hA7, _⟩ := hA hDi
    obtain ⟨hf7, hs7⟩ := hA7 (hdp 7 (by simp) (by decide))
    refine upon_store (b := x7_7) (off := 0) (vs := [.int .u64 ((un fx (hdS S.nl fs1 es (row p.r)).1).1 : Int), .int .u64 ((un fx (hdS S.nl fs1 es (row p.r)).1).2 : Int)]) (by kernel_rfl) hf7 (by simp) ⟨x7_7, by kernel_rfl, by kernel_rfl, hE.updIn (.inr hs7) _ _, fun h => ?_, fun _ => ⟨⟨hf7.upd _ _, hs7⟩, trivial⟩⟩
    rw [setS_self] at h; cases h
  rintro D x7_7 a wz85 hS hall ⟨hEz85, _, hB⟩
  obtain ⟨⟨hz85_7, hy85_7⟩, _⟩ := hB (hall 8 (by simp))
  have hB90 := hB80.ext hEz85 (by simp)
  have hB91 := hB81.ext hEz85 (by simp)
  have hw85_7 : w3.heap.size ≤ x7_7 := Nat.le_trans hE83.size hy85_7
  have hE93 := hE83.trans0 hEz85
  replace hS := hS.kp [(0, Sl gf S.ns.length cf), (1, (Pv tb)), (17, S.pv), (18, I6 S.ps.length), (19, I6 i), (6, .bool gr), (20, .bool (decide ((↑i : Int) < ↑S.ps.length))), (8, (Pv wl14.heap.size)), (9, (Pv wc49.heap.size)), (11, (Pv x7_7))]
  refine hK84 _ _ <| sq fun K94 hK94 => ?_
  rcases (show (un fx (hdS S.nl fs1 es (row p.r)).1 = fx) ∨ (¬un fx (hdS S.nl fs1 es (row p.r)).1 = fx) from Decidable.em _) with h5 | h5
  ·
   refine fn3 [.q (.lds [.int .u64 ((un fx (hdS S.nl fs1 es (row p.r)).1).1 : Int), .int .u64 ((un fx (hdS S.nl fs1 es (row p.r)).1).2 : Int)]), .q .p, .q .p, .q (.ld (I6 p.l)), .q (.run ((Po gf (0 + p.l.toNat * 2)))), .q (.lds [.int .u64 ↑fx.1, .int .u64 ↑fx.2]), .q (.run (.bool false))] [0, 0, 0, 0, 0, 0, 0] [0, 0, 0, 0, 0, 0, 0] [0, 0, 0, 4, 14, 30, 63] [] 0 ([(0, Sl gf S.ns.length cf), (1, (Pv tb)), (17, S.pv), (18, I6 S.ps.length), (19, I6 i), (6, .bool gr), (20, .bool (decide ((↑i : Int) < ↑S.ps.length))), (8, (Pv wl14.heap.size)), (9, (Pv wc49.heap.size)), (11, (Pv x7_7)), (37, .agg #[.int .u64 ((un fx (hdS S.nl fs1 es (row p.r)).1).1 : Int), .int .u64 ((un fx (hdS S.nl fs1 es (row p.r)).1).2 : Int)]), (38, Sl gf S.ns.length cf), (39, (Pv wl14.heap.size)), (40, I6 p.l), (41, (Po gf (0 + p.l.toNat * 2))), (42, .agg #[.int .u64 ↑fx.1, .int .u64 ↑fx.2]), (43, .bool false)]) [wz85.drew] wz85.drew (fun w' => [(0, [w'.cell? ⟨x7_7, 0, none⟩ = some (.int .u64 ((un fx (hdS S.nl fs1 es (row p.r)).1).1 : Int)), w'.cell? ⟨x7_7, 1, none⟩ = some (.int .u64 ((un fx (hdS S.nl fs1 es (row p.r)).1).2 : Int))]), (3, [w'.cell? ⟨wl14.heap.size, 0, none⟩ = some (I6 p.l)]), (4, [Rv (Instr.indexAt 103 (Sl gf S.ns.length cf) (I6 p.l)) ((Po gf (0 + p.l.toNat * 2))) w']), (5, [w'.cell? ⟨gf, 0 + p.l.toNat * 2, none⟩ = some (.int .u64 ↑fx.1), w'.cell? ⟨gf, 0 + p.l.toNat * 2 + 1, none⟩ = some (.int .u64 ↑fx.2)]), (6, [Rv (do eqGuard .neq 110 (.tmp 37) (.tmp 42) (.agg #[.int .u64 ((un fx (hdS S.nl fs1 es (row p.r)).1).1 : Int), .int .u64 ((un fx (hdS S.nl fs1 es (row p.r)).1).2 : Int)]) (.agg #[.int .u64 ↑fx.1, .int .u64 ↑fx.2]); binOp .neq 110 (.agg #[.int .u64 ((un fx (hdS S.nl fs1 es (row p.r)).1).1 : Int), .int .u64 ((un fx (hdS S.nl fs1 es (row p.r)).1).2 : Int)]) (.agg #[.int .u64 ↑fx.1, .int .u64 ↑fx.2])) (.bool false) w'])]) [0, 1, 17, 18, 19, 6, 20, 8, 9, 11] [] hS (fun _ => by kernel_rfl) ?_ ?_ ?_
   ·intro e w' hw
    refine (.c ?_ (.c ?_ (.c ?_ (.c ?_ (.c ?_ .nil)))))
    ·intro h1 h2
     obtain rfl := Nat.le_antisymm h2 h1
     obtain rfl : w' = wz85.drew := hw.trans (by kernel_rfl)
     exact (.c ((hz85_7.drew : Blk wz85.drew x7_7 110 (#[.int .u64 ((un fx (hdS S.nl fs1 es (row p.r)).1).1 : Int), .int .u64 ((un fx (hdS S.nl fs1 es (row p.r)).1).2 : Int)])).cell 0 rfl) (.c ((hz85_7.drew : Blk wz85.drew x7_7 110 (#[.int .u64 ((un fx (hdS S.nl fs1 es (row p.r)).1).1 : Int), .int .u64 ((un fx (hdS S.nl fs1 es (row p.r)).1).2 : Int)])).cell 1 rfl) .nil))
    ·intro h1 h2
     obtain rfl := Nat.le_antisymm h2 h1
     obtain rfl : w' = wz85.drew := hw.trans (by kernel_rfl)
     exact (.c ((hB91.drew : Blk wz85.drew wl14.heap.size 73 (#[I6 p.l, p.rv])).cell 0 rfl) .nil)
    ·exact fun _ _ => (.c (ixz 110 2 p.l) .nil)
    ·intro h1 h2
     obtain rfl := Nat.le_antisymm h2 h1
     obtain rfl : w' = wz85.drew := hw.trans (by kernel_rfl)
     exact (.c ((hB90.drew : OwnR wz85.drew 110 2 gf cf S.ns.length (secs fs1)).cellAt _ (by rw [Nat.zero_add]; exact secs_at (i := 0) hfx (by omega))) (.c ((hB90.drew : OwnR wz85.drew 110 2 gf cf S.ns.length (secs fs1)).cellAt _ (by rw [Nat.zero_add]; exact secs_at (i := 1) hfx (by omega))) .nil))
    ·exact fun _ _ => (.c ((bin_arr2 (e := 108) (kk := .u64) (by kernel_rfl) (by kernel_rfl) (by kernel_rfl) (by kernel_rfl) (by kernel_rfl) (by rw [se_eq]; simp only [h5, decide_true, decide_false, Bool.not_true, Bool.not_false]))) .nil)
   ·refine .nil
   rintro a w96 hS hw97
   replace hw97 : w96 = wz85.drew := hw97.trans (by kernel_rfl)
   have hB102 := OwnR.at' hw97 (hB90.drew)
   have hE106 : Ext [gf] w3 w96 := by rw [hw97]; exact hE93.drew
   replace hS := hS.kp [(0, Sl gf S.ns.length cf), (1, (Pv tb)), (17, S.pv), (18, I6 S.ps.length), (19, I6 i), (6, .bool gr), (20, .bool (decide ((↑i : Int) < ↑S.ps.length))), (8, (Pv wl14.heap.size)), (9, (Pv wc49.heap.size)), (11, (Pv x7_7)), (43, .bool false)]
   refine hK94 _ _ ?_
   refine cond_f hS rfl ?_
   refine wpIn_skip <| inBlock_normal <| hK22 _ _ <| rgn 2 <| sd ww [.as (I6 (↑i + 1)), .p] [_] [(19, I6 (↑i + 1))] [] 2 0 hS (as6 (↑i + 1)) fun a hS => seg_end ?_
   exact ⟨(i + 1, fs1, gr), ⟨hS.kp [(0, Sl gf S.ns.length cf), (1, (Pv tb)), (17, S.pv), (18, I6 S.ps.length), (19, I6 (↑i + 1)), (6, .bool gr)], hE106, by omega, hB102, hP.skip (.of hpi hfx h5)⟩, by simp only; omega⟩
  ·
   have hsl : (secs fs1).length = S.ns.length * 2 := by rw [secs_len, hfl]
   refine fn3 [.q (.lds [.int .u64 ((un fx (hdS S.nl fs1 es (row p.r)).1).1 : Int), .int .u64 ((un fx (hdS S.nl fs1 es (row p.r)).1).2 : Int)]), .q .p, .q .p, .q (.ld (I6 p.l)), .q (.run ((Po gf (0 + p.l.toNat * 2)))), .q (.lds [.int .u64 ↑fx.1, .int .u64 ↑fx.2]), .q (.run (.bool true))] [0, 0, 0, 0, 0, 0, 0] [0, 0, 0, 0, 0, 0, 0] [0, 0, 0, 4, 14, 30, 63] [] 0 ([(0, Sl gf S.ns.length cf), (1, (Pv tb)), (17, S.pv), (18, I6 S.ps.length), (19, I6 i), (6, .bool gr), (20, .bool (decide ((↑i : Int) < ↑S.ps.length))), (8, (Pv wl14.heap.size)), (9, (Pv wc49.heap.size)), (11, (Pv x7_7)), (37, .agg #[.int .u64 ((un fx (hdS S.nl fs1 es (row p.r)).1).1 : Int), .int .u64 ((un fx (hdS S.nl fs1 es (row p.r)).1).2 : Int)]), (38, Sl gf S.ns.length cf), (39, (Pv wl14.heap.size)), (40, I6 p.l), (41, (Po gf (0 + p.l.toNat * 2))), (42, .agg #[.int .u64 ↑fx.1, .int .u64 ↑fx.2]), (43, .bool true)]) [wz85.drew] wz85.drew (fun w' => [(0, [w'.cell? ⟨x7_7, 0, none⟩ = some (.int .u64 ((un fx (hdS S.nl fs1 es (row p.r)).1).1 : Int)), w'.cell? ⟨x7_7, 1, none⟩ = some (.int .u64 ((un fx (hdS S.nl fs1 es (row p.r)).1).2 : Int))]), (3, [w'.cell? ⟨wl14.heap.size, 0, none⟩ = some (I6 p.l)]), (4, [Rv (Instr.indexAt 103 (Sl gf S.ns.length cf) (I6 p.l)) ((Po gf (0 + p.l.toNat * 2))) w']), (5, [w'.cell? ⟨gf, 0 + p.l.toNat * 2, none⟩ = some (.int .u64 ↑fx.1), w'.cell? ⟨gf, 0 + p.l.toNat * 2 + 1, none⟩ = some (.int .u64 ↑fx.2)]), (6, [Rv (do eqGuard .neq 110 (.tmp 37) (.tmp 42) (.agg #[.int .u64 ((un fx (hdS S.nl fs1 es (row p.r)).1).1 : Int), .int .u64 ((un fx (hdS S.nl fs1 es (row p.r)).1).2 : Int)]) (.agg #[.int .u64 ↑fx.1, .int .u64 ↑fx.2]); binOp .neq 110 (.agg #[.int .u64 ((un fx (hdS S.nl fs1 es (row p.r)).1).1 : Int), .int .u64 ((un fx (hdS S.nl fs1 es (row p.r)).1).2 : Int)]) (.agg #[.int .u64 ↑fx.1, .int .u64 ↑fx.2])) (.bool true) w'])]) [0, 1, 17, 18, 19, 6, 20, 8, 9, 11] [] hS (fun _ => by kernel_rfl) ?_ ?_ ?_
   ·intro e w' hw
    refine (.c ?_ (.c ?_ (.c ?_ (.c ?_ (.c ?_ .nil)))))
    ·intro h1 h2
     obtain rfl := Nat.le_antisymm h2 h1
     obtain rfl : w' = wz85.drew := hw.trans (by kernel_rfl)
     exact (.c ((hz85_7.drew : Blk wz85.drew x7_7 110 (#[.int .u64 ((un fx (hdS S.nl fs1 es (row p.r)).1).1 : Int), .int .u64 ((un fx (hdS S.nl fs1 es (row p.r)).1).2 : Int)])).cell 0 rfl) (.c ((hz85_7.drew : Blk wz85.drew x7_7 110 (#[.int .u64 ((un fx (hdS S.nl fs1 es (row p.r)).1).1 : Int), .int .u64 ((un fx (hdS S.nl fs1 es (row p.r)).1).2 : Int)])).cell 1 rfl) .nil))
    ·intro h1 h2
     obtain rfl := Nat.le_antisymm h2 h1
     obtain rfl : w' = wz85.drew := hw.trans (by kernel_rfl)
     exact (.c ((hB91.drew : Blk wz85.drew wl14.heap.size 73 (#[I6 p.l, p.rv])).cell 0 rfl) .nil)
    ·exact fun _ _ => (.c (ixz 110 2 p.l) .nil)
    ·intro h1 h2
     obtain rfl := Nat.le_antisymm h2 h1
     obtain rfl : w' = wz85.drew := hw.trans (by kernel_rfl)
     exact (.c ((hB90.drew : OwnR wz85.drew 110 2 gf cf S.ns.length (secs fs1)).cellAt _ (by rw [Nat.zero_add]; exact secs_at (i := 0) hfx (by omega))) (.c ((hB90.drew : OwnR wz85.drew 110 2 gf cf S.ns.length (secs fs1)).cellAt _ (by rw [Nat.zero_add]; exact secs_at (i := 1) hfx (by omega))) .nil))
    ·exact fun _ _ => (.c ((bin_arr2 (e := 108) (kk := .u64) (by kernel_rfl) (by kernel_rfl) (by kernel_rfl) (by kernel_rfl) (by kernel_rfl) (by rw [se_eq]; simp only [h5, decide_true, decide_false, Bool.not_true, Bool.not_false]))) .nil)
   ·refine .nil
   rintro a w108 hS hw109
   replace hw109 : w108 = wz85.drew := hw109.trans (by kernel_rfl)
   have hB114 := OwnR.at' hw109 (hB90.drew)
   have hB115 := Blk.at' hw109 (hB91.drew)
   have hB117 := Blk.at' hw109 (hz85_7.drew)
   have hE118 : Ext [gf] w3 w108 := by rw [hw109]; exact hE93.drew
   replace hS := hS.kp [(0, Sl gf S.ns.length cf), (1, (Pv tb)), (17, S.pv), (18, I6 S.ps.length), (19, I6 i), (6, .bool gr), (20, .bool (decide ((↑i : Int) < ↑S.ps.length))), (8, (Pv wl14.heap.size)), (9, (Pv wc49.heap.size)), (11, (Pv x7_7)), (43, .bool true)]
   refine hK94 _ _ ?_
   refine cond_t hS rfl ?_
   refine rgn 7 <| sd ww [.p, .p, .ld (I6 p.l), .lds [.int .u64 ((un fx (hdS S.nl fs1 es (row p.r)).1).1 : Int), .int .u64 ((un fx (hdS S.nl fs1 es (row p.r)).1).2 : Int)], .run ((Po gf (0 + p.l.toNat * 2)))] [_, _, _, Rv (Instr.indexAt 103 (Sl gf S.ns.length cf) (I6 p.l)) ((Po gf (0 + p.l.toNat * 2))) w108] [(47, .agg #[.int .u64 ((un fx (hdS S.nl fs1 es (row p.r)).1).1 : Int), .int .u64 ((un fx (hdS S.nl fs1 es (row p.r)).1).2 : Int)]), (48, (Po gf (0 + p.l.toNat * 2)))] [] 5 2 hS (hB115.k 0 (hB117.k 0 (hB117.k 1 (.c (ixz 110 2 p.l) .nil)))) fun a hS => eff_store_ownN ww (r := 1) (b := gf) (off := 0 + p.l.toNat * 2) (vs := [.int .u64 ((un fx (hdS S.nl fs1 es (row p.r)).1).1 : Int), .int .u64 ((un fx (hdS S.nl fs1 es (row p.r)).1).2 : Int)]) (xs := (secs fs1)) hS (by kernel_rfl) hB114 (by simp only [List.length_cons, List.length_nil]; omega) fun a ws119 hOs119 hEs119 hsz119 hS => ?_
   have hE127 : Ext [gf] w3 ws119 := hE118.trans hEs119 (fun b hb => by simp at hb; subst hb; exact .inl (by simp))
   refine sg ww [.p] [] [(0, Sl gf S.ns.length cf), (1, (Pv tb)), (17, S.pv), (18, I6 S.ps.length), (19, I6 i), (6, .bool true), (20, .bool (decide ((↑i : Int) < ↑S.ps.length))), (8, (Pv wl14.heap.size)), (9, (Pv wc49.heap.size)), (11, (Pv x7_7)), (43, .bool true)] 7 0 hS .nil fun a hS => seg_end <| inBlock_normal <| hK22 _ _ <| rgn 2 <| sd ww [.as (I6 (↑i + 1)), .p] [_] [(19, I6 (↑i + 1))] [] 2 0 hS (as6 (↑i + 1)) fun a hS => seg_end ?_
   have hgs := hOs119
   rw [secs_setL _ _ (un fx (hdS S.nl fs1 es (row p.r)).1) (by omega)] at hgs
   exact ⟨(i + 1, (fs1.set p.l.toNat (un fx (hdS S.nl fs1 es (row p.r)).1)), true), ⟨hS.kp [(0, Sl gf S.ns.length cf), (1, (Pv tb)), (17, S.pv), (18, I6 S.ps.length), (19, I6 (↑i + 1)), (6, .bool true)], hE127, by omega, hgs, hP.set (hP.snd.set hes hpm (by omega) (hI.small hlx hpm) hfx) (muF_set hfx (ok_un (hP.snd.ok fx (List.mem_of_getElem? hfx)) (hdS_ok hP.snd.ok (hI.small hlx hpm))) h5)⟩, by simp only; omega⟩
 ·
  replace hb21 := of_decide_eq_false hb21
  have hEl14 : Ext [gf, gb] w wl14 := hE10.trans hXl14 (fun b hbM => by simp at hbM; rw [hbM]; exact .inl (by simp))
  have hie : i = S.ps.length := by omega
  refine xt2 <| hK12 _ _ <| sdq 4 [.p, .p, .p, .p] [] [(4, Sl gf S.ns.length cf), (5, .bool gr)] [] hS .nil fun a hS => wpIn_ret ?_
  refine ret2 hS Tryd.results90 rfl rfl ?_
  exact ⟨fs1, gr, rfl, hB17, hg1, hie ▸ hP, hEl14⟩
theorem fixedG_any {w0 w : World} {S : Sp} (hG : SpOk w0 S) (hb : Ext [] w0 w) (hI : Ix S) (hlx : S.lx.length ≤ 64) {ce cf ge gf gb tb sb : Nat} {fv : Value} {es : List Bool} {fs : List Se} (hsb : Blk w sb 26 S.ca) (htb : Blk w tb 106 #[Pv gb]) (hgb : Blk w gb 105 #[S.lv, S.nv, I6 S.st, S.pv, Sl ge S.ns.length ce, fv]) (hem : OwnR w 4 1 ge ce S.ns.length (bls es)) (hfs : OwnR w 110 2 gf cf S.ns.length (secs fs)) (hgn : w0.heap.size ≤ gf) (hbn : w0.heap.size ≤ gb) (hes : IsD S.g false S.ns.length es) (hs : FsS S es fs) :
  Calls Tryd.prog 56 #[Sl gf S.ns.length cf, .func (.func 90) #[] #[(Pv tb), (Pv sb)]] w fun e w' => ∃ fs', e = .returned (Sl gf S.ns.length cf) ∧ Blk w' gb 105 #[S.lv, S.nv, I6 S.st, S.pv, Sl ge S.ns.length ce, Sl gf S.ns.length cf] ∧ OwnR w' 110 2 gf cf S.ns.length (secs fs') ∧ FsS S es fs' ∧ IsF S.g S.nl (hF fs') ∧ Ext [gf, gb] w w' := by
 refine cbd 17 [(0, Sl gf S.ns.length cf), (1, .func (.func 90) #[] #[(Pv tb), (Pv sb)])] Tryd.func56 rfl fun a hS => ?_
 have hE0 : Ext [gf, gb] w w := Ext.refl _ _
 refine sdq 1 [.p] [] [(4, .slice none 0 0)] [] hS .nil fun a hS => wpIn_block ?_
 have hbl2 := (hb.trans hE0 (fun b hbM => by simp at hbM; exact hbM.elim (fun hbM => by rw [hbM]; exact .inr hgn) fun hbM => by rw [hbM]; exact .inr hbn))
 refine loop_ghost (fun ((fs1, fv1) : (List Se) × Value) a' w' => St 17 [] [(0, Sl gf S.ns.length cf), (1, .func (.func 90) #[] #[(Pv tb), (Pv sb)])] a' ∧ Ext [gf, gb] w w' ∧ OwnR w' 110 2 gf cf S.ns.length (secs fs1) ∧ Blk w' gb 105 #[S.lv, S.nv, I6 S.st, S.pv, Sl ge S.ns.length ce, fv1] ∧ FsS S es fs1) (fun ((fs1, fv1) : (List Se) × Value) => muF fs1) (fs, fv) ⟨hS.keepTo [0, 1] (by kernel_rfl), Ext.refl _ _, hfs, hgb, hs⟩ ?_
 rintro ⟨fs1, fv1⟩ a wl2 ⟨hS, hXl2, hg1, hgb1, hs1⟩
 have hB3 := hsb.ext hXl2 (by simp; exact ⟨(OwnR.ne_type hfs hsb (by decide)).symm, (Blk.ne_type hsb hgb (by decide))⟩)
 have hB4 := htb.ext hXl2 (by simp; exact ⟨(OwnR.ne_type hfs htb (by decide)).symm, (Blk.ne_type htb hgb (by decide))⟩)
 have hB5 := hem.ext hXl2 (by simp; exact ⟨(OwnR.neR hem hfs (by decide)), (OwnR.ne_type hem hgb (by decide))⟩)
 refine wpIn_block <| sq fun K6 hK6 => rgn 8 <| sd ww [.p, .p] [] [(8, .func (.func 90) #[] #[(Pv tb), (Pv sb)]), (9, Sl gf S.ns.length cf)] [] 2 6 hS .nil fun a hS => eff_call ww (r := 5) (f := 90) (vs := [Sl gf S.ns.length cf]) (cap := #[(Pv tb), (Pv sb)]) (d := (some 10)) hS (by kernel_rfl) Tryd.call90 #[Sl gf S.ns.length cf, (Pv tb), (Pv sb)] (by kernel_rfl) (known1_any hG (hbl2.trans hXl2 (fun b hbM => by simp at hbM; exact hbM.elim (fun hbM => by rw [hbM]; exact .inr hgn) fun hbM => by rw [hbM]; exact .inr hbn)) hI hlx hB3 hB4 hgb1 hB5 hg1 hgn hbn hes hs1) ?_
 rintro _ wc7 ⟨fs7, gr7, rfl, hB7, hO7, hP7, hEc7⟩
 refine ⟨_, rfl, fun a hS => ?_⟩
 have hE11 := hXl2.trans hEc7 (fun b hbM => by simp at hbM; exact hbM.elim (fun hbM => by rw [hbM]; exact .inl (by simp)) fun hbM => by rw [hbM]; exact .inl (by simp))
 refine sd ww [.p, .p, .p, .p, .p] [] [(5, Sl gf S.ns.length cf), (6, .bool gr7)] [] 8 0 hS .nil fun a hS => sge hK6 <| sq fun K12 hK12 => sdq 2 [.p, .p] [] [(14, .bool (!gr7))] [] hS .nil fun a hS => ?_
 refine cond_b hS rfl (fun hb14 => ?_) (fun hb14 => ?_)
 ·
  replace hb14 := hb14
  have hgr : gr7 = false := by simpa using hb14
  have hEl2 : Ext [gf, gb] w wc7 := hE0.trans hE11 (fun b hbM => by simp at hbM; exact hbM.elim (fun hbM => by rw [hbM]; exact .inl (by simp)) fun hbM => by rw [hbM]; exact .inl (by simp))
  refine sdq 2 [.p, .p] [] [(4, Sl gf S.ns.length cf)] [] hS .nil fun a hS => wpIn_ret <| then_ret <| inBlock_ret <| then_ret <| inBlock_ret ?_
  refine ret1 hS Tryd.results56 rfl ?_
  exact ⟨_, rfl, hB7, hO7, hP7.snd, FsP.isF hes hP7.snd (fun j hj => (hP7.cl hgr).2 j hj), hEl2⟩
 ·
  replace hb14 := hb14
  have hgr : gr7 = true := by simpa using hb14
  refine wpIn_skip <| hK12 _ _ <| rgn 2 <| sd ww [.p, .p] [] [] [] 2 0 hS .nil fun a hS => seg_end <| inBlock_normal ?_
  exact ⟨(fs7, (Value.slice (some ⟨gf, 0, none⟩) S.ns.length cf)), ⟨hS.kp [(0, Sl gf S.ns.length cf), (1, .func (.func 90) #[] #[(Pv tb), (Pv sb)])], hE11, hO7, hB7, hP7.snd⟩, hP7.lt hgr⟩
def Nul (S : Sp) (w : World) (g : Nat) : Prop := ∃ es, OwnR w 4 1 g S.ns.length S.ns.length (bls es) ∧ IsD S.g false S.ns.length es
theorem Nul.ext {S : Sp} {M : List Nat} {w w' : World} {g : Nat} (h : Nul S w g) (hE : Ext M w w') (hM : g ∉ M) : Nul S w' g := by
 obtain ⟨es, h1, h2⟩ := h
 exact ⟨es, h1.ext hE hM, h2⟩
theorem Nul.lt {S : Sp} {w : World} {g : Nat} (h : Nul S w g) : g < w.heap.size := by
 obtain ⟨es, h1, _⟩ := h
 exact h1.lt
theorem Nul.updNe {S : Sp} {w : World} {g : Nat} (h : Nul S w g) {b : Nat} (hne : b ≠ g) (T : TypeId) (cs : Array Value) : Nul S (upd w b T cs) g := by
 obtain ⟨es, h1, h2⟩ := h
 exact ⟨es, h1.updNe hne T cs, h2⟩
structure Kn (S : Sp) (w : World) (gb ge gf : Nat) (es : List Bool) (fs : List Se) : Prop where
 gb : Blk w gb 105 #[S.lv, S.nv, I6 S.st, S.pv, Sn S ge, Sn S gf]
 re : OwnR w 4 1 ge S.ns.length S.ns.length (bls es)
 rf : OwnR w 110 2 gf S.ns.length S.ns.length (secs fs)
 hes : IsD S.g false S.ns.length es
 hs : FsS S es fs
 hF : IsF S.g S.nl (hF fs)
theorem Kn.ext0 {S : Sp} {w w' : World} {gb ge gf : Nat} {es : List Bool} {fs : List Se} (h : Kn S w gb ge gf es fs) (hE : Ext [] w w') : Kn S w' gb ge gf es fs :=
 ⟨h.gb.ext hE (by simp), h.re.ext hE (by simp), h.rf.ext hE (by simp), h.hes, h.hs, h.hF⟩
set_option maxHeartbeats 1000000 in
theorem known_any {w0 w : World} {S : Sp} (hG : SpOk w0 S) (hb : Ext [] w0 w) (hI : Ix S) (hlx : S.lx.length ≤ 64) :
  Calls Tryd.prog 54 #[.agg S.ca] w fun e w' => ∃ gb ge gf es fs, e = .returned (Pv gb) ∧ Kn S w' gb ge gf es fs ∧ Ext [] w w' := by
 have hlmax := hG.lmax
 have hnmax := hG.nmax
 have hpmax := hG.pmax
 refine cbd 19 [(0, .agg S.ca)] Tryd.func54 rfl fun a hS => ?_
 have hE0 : Ext [] w w := Ext.refl _ _
 refine sq fun K1 hK1 => rgn 2 <| ebx 1 S.ca 26 (some 1) hS fun a w2 hw3 hS => ?_
 have hB4 := Blk.nw hw3
 have hs5 := hE0.size
 have hE6 := hE0.al hw3
 refine sd ww [.p] [] [(2, .pointer none)] [] 2 0 hS .nil fun a hS => sge hK1 <| sq fun K7 hK7 => ?_
 refine region_set (G := Nat × Nat × Nat) ww [.q (.lds [S.lv, S.nv, I6 S.st, S.pv]), .q (.lds [S.lv, S.nv, I6 S.st, S.pv]), .e, .q .p, .e, .e, .e] [0, 0, 2, 7, 15, 0, 63] [2, 4, 5, 6] (fun ⟨x1_2, x1_4, x1_5⟩ => ([(0, .agg S.ca), (1, (Pv w.heap.size)), (2, .pointer none), (4, .agg S.ca), (5, .agg S.ca), (6, Sn S x1_2), (7, .agg #[S.lv, S.nv, I6 S.st, S.pv, Sn S x1_2, .slice none 0 0]), (8, (Pv x1_4)), (3, (Pv x1_5))] : Fm)) (fun D ⟨x1_2, x1_4, x1_5⟩ w' => Ext [] w2 w' ∧ (D 6 = false → (D 2 = true → (Nul S w' x1_2 ∧ w2.heap.size ≤ x1_2)) ∧ (D 4 = true → (Blk w' x1_4 105 (#[S.lv, S.nv, I6 S.st, S.pv, Sn S x1_2, .slice none 0 0]) ∧ w2.heap.size ≤ x1_4)) ∧ (D 5 = true → (Blk w' x1_5 106 (#[.pointer none]) ∧ w2.heap.size ≤ x1_5)) ∧ (D 2 = true → D 4 = true → x1_2 ≠ x1_4) ∧ (D 2 = true → D 5 = true → x1_2 ≠ x1_5) ∧ (D 4 = true → D 5 = true → x1_4 ≠ x1_5) ∧ True) ∧ (D 6 = true → (Nul S w' x1_2 ∧ w2.heap.size ≤ x1_2) ∧ (Blk w' x1_4 105 (#[S.lv, S.nv, I6 S.st, S.pv, Sn S x1_2, .slice none 0 0]) ∧ w2.heap.size ≤ x1_4) ∧ (Blk w' x1_5 106 (#[(Pv x1_4)]) ∧ w2.heap.size ≤ x1_5) ∧ x1_2 ≠ x1_4 ∧ x1_2 ≠ x1_5 ∧ x1_4 ≠ x1_5 ∧ True)) (fun ⟨x1_2, x1_4, x1_5⟩ w' => [(0, [w'.cell? ⟨w.heap.size, 0, none⟩ = some (S.lv), w'.cell? ⟨w.heap.size, 1, none⟩ = some (S.nv), w'.cell? ⟨w.heap.size, 2, none⟩ = some (I6 S.st), w'.cell? ⟨w.heap.size, 3, none⟩ = some (S.pv)]), (1, [w'.cell? ⟨w.heap.size, 0, none⟩ = some (S.lv), w'.cell? ⟨w.heap.size, 1, none⟩ = some (S.nv), w'.cell? ⟨w.heap.size, 2, none⟩ = some (I6 S.st), w'.cell? ⟨w.heap.size, 3, none⟩ = some (S.pv)])]) (0, 0, 0) [0, 1, 2] [] hS (by kernel_rfl) (by kernel_rfl) (by kernel_rfl) (by kernel_rfl) (fun ⟨x1_2, x1_4, x1_5⟩ _ => by kernel_rfl) (by kernel_rfl) (by kernel_rfl) ⟨(Ext.refl _ _).drew, fun _ => ⟨fun h => (by cases h), fun h => (by cases h), fun h => (by cases h), fun h => (by cases h), fun h => (by cases h), fun h => (by cases h), trivial⟩, fun h => by cases h⟩ ?_ ?_ ?_
 ·rintro D ⟨x1_2, x1_4, x1_5⟩ w' ⟨hE, _, _⟩ xq hxq _ _
  refine AllI.mem ?_ xq hxq
  exact (.c (.c (((hB4.ext hE (by simp)) : Blk w' w.heap.size 26 (S.ca)).cell 0 rfl) (.c (((hB4.ext hE (by simp)) : Blk w' w.heap.size 26 (S.ca)).cell 1 rfl) (.c (((hB4.ext hE (by simp)) : Blk w' w.heap.size 26 (S.ca)).cell 2 rfl) (.c (((hB4.ext hE (by simp)) : Blk w' w.heap.size 26 (S.ca)).cell 3 rfl) .nil)))) (.c (.c (((hB4.ext hE (by simp)) : Blk w' w.heap.size 26 (S.ca)).cell 0 rfl) (.c (((hB4.ext hE (by simp)) : Blk w' w.heap.size 26 (S.ca)).cell 1 rfl) (.c (((hB4.ext hE (by simp)) : Blk w' w.heap.size 26 (S.ca)).cell 2 rfl) (.c (((hB4.ext hE (by simp)) : Blk w' w.heap.size 26 (S.ca)).cell 3 rfl) .nil)))) .nil))
 ·refine (.c ?_ (.c ?_ (.c ?_ (.c ?_ .nil))))
  ·rintro D ⟨x1_2, x1_4, x1_5⟩ w' ⟨hE, hA, hB⟩ hDi hdp hnd
   have hDf : D 6 = false := hnd 6 (by simp) (by decide)
   obtain ⟨hA2, hA4, hA5, hP2_4, hP2_5, hP4_5, _⟩ := hA hDf
   refine upon_call (f := 52) (vs := [.agg S.ca]) (cap := #[]) (d := (some 6)) (by kernel_rfl) Tryd.call52 #[.agg S.ca] (by kernel_rfl) (nullable_any hG ((hb.trans0 hE6).trans0 hE) hI) ?_
   rintro _ wn ⟨gq, esq, rfl, hOq, hDq, hgq, hEn⟩
   refine ⟨_, rfl, (gq, x1_4, x1_5), by kernel_rfl, by kernel_rfl, hE.trans0 hEn, fun _ => ⟨fun _ => ⟨⟨esq, hOq, hDq⟩, Nat.le_trans hE.size hgq⟩, fun h => absurd h (by rw [show setS D 2 4 = D 4 from rfl, hnd 4 (by simp) (by decide)]; decide), fun h => ⟨(hA5 h).1.ext hEn (by simp), (hA5 h).2⟩, fun _ h => (Nat.ne_of_gt (Nat.lt_of_lt_of_le (hA4 h).1.lt hgq)), fun _ h => (Nat.ne_of_gt (Nat.lt_of_lt_of_le (hA5 h).1.lt hgq)), hP4_5, trivial⟩, fun h => ?_⟩
   rw [show setS D 2 6 = D 6 from rfl, hDf] at h; cases h
  ·rintro D ⟨x1_2, x1_4, x1_5⟩ w' ⟨hE, hA, hB⟩ hDi hdp hnd
   have hDf : D 6 = false := hnd 6 (by simp) (by decide)
   obtain ⟨hA2, hA4, hA5, hP2_4, hP2_5, hP4_5, _⟩ := hA hDf
   have hEn : Ext [] w' (w'.alloc (.cells #[S.lv, S.nv, I6 S.st, S.pv, Sn S x1_2, .slice none 0 0] 105)) := (Ext.refl _ _).alloc _
   refine upon_box (nb := w'.heap.size) (cs := #[S.lv, S.nv, I6 S.st, S.pv, Sn S x1_2, .slice none 0 0]) (T := 105) (d := (some 8)) (by kernel_rfl) rfl ⟨(x1_2, w'.heap.size, x1_5), by kernel_rfl, by kernel_rfl, hE.trans0 hEn, fun _ => ⟨fun h => ⟨(hA2 h).1.ext hEn (by simp), (hA2 h).2⟩, fun _ => ⟨Blk.new _ _ _, hE.size⟩, fun h => ⟨(hA5 h).1.ext hEn (by simp), (hA5 h).2⟩, fun h _ => (Nat.ne_of_lt (hA2 h).1.lt), hP2_5, fun _ h => (Nat.ne_of_gt (hA5 h).1.lt), trivial⟩, fun h => ?_⟩
   rw [show setS D 4 6 = D 6 from rfl, hDf] at h; cases h
  ·rintro D ⟨x1_2, x1_4, x1_5⟩ w' ⟨hE, hA, hB⟩ hDi hdp hnd
   have hDf : D 6 = false := hnd 6 (by simp) (by decide)
   obtain ⟨hA2, hA4, hA5, hP2_4, hP2_5, hP4_5, _⟩ := hA hDf
   have hEn : Ext [] w' (w'.alloc (.cells #[.pointer none] 106)) := (Ext.refl _ _).alloc _
   refine upon_box (nb := w'.heap.size) (cs := #[.pointer none]) (T := 106) (d := (some 3)) (by kernel_rfl) rfl ⟨(x1_2, x1_4, w'.heap.size), by kernel_rfl, by kernel_rfl, hE.trans0 hEn, fun _ => ⟨fun h => ⟨(hA2 h).1.ext hEn (by simp), (hA2 h).2⟩, fun h => ⟨(hA4 h).1.ext hEn (by simp), (hA4 h).2⟩, fun _ => ⟨Blk.new _ _ _, hE.size⟩, hP2_4, fun h _ => (Nat.ne_of_lt (hA2 h).1.lt), fun h _ => (Nat.ne_of_lt (hA4 h).1.lt), trivial⟩, fun h => ?_⟩
   rw [show setS D 5 6 = D 6 from rfl, hDf] at h; cases h
  ·rintro D ⟨x1_2, x1_4, x1_5⟩ w' ⟨hE, hA, hB⟩ hDi hdp hnd
   obtain ⟨hA2, hA4, hA5, hP2_4, hP2_5, hP4_5, _⟩ := hA hDi
   obtain ⟨hf2, hs2⟩ := hA2 (hdp 2 (by simp) (by decide))
   obtain ⟨hf4, hs4⟩ := hA4 (hdp 4 (by simp) (by decide))
   obtain ⟨hf5, hs5⟩ := hA5 (hdp 5 (by simp) (by decide))
   have hq2_4 := hP2_4 (hdp 2 (by simp) (by decide)) (hdp 4 (by simp) (by decide))
   have hq2_5 := hP2_5 (hdp 2 (by simp) (by decide)) (hdp 5 (by simp) (by decide))
   have hq4_5 := hP4_5 (hdp 4 (by simp) (by decide)) (hdp 5 (by simp) (by decide))
   refine upon_store (b := x1_5) (off := 0) (vs := [(Pv x1_4)]) (by kernel_rfl) hf5 (by simp) ⟨(x1_2, x1_4, x1_5), by kernel_rfl, by kernel_rfl, hE.updIn (.inr hs5) _ _, fun h => ?_, fun _ => ⟨⟨hf2.updNe (hq2_5.symm) _ _, hs2⟩, ⟨hf4.updNe (hq4_5.symm) _ _, hs4⟩, ⟨hf5.upd _ _, hs5⟩, hq2_4, hq2_5, hq4_5, trivial⟩⟩
   rw [setS_self] at h; cases h
 rintro D ⟨x1_2, x1_4, x1_5⟩ a wz8 hS hall ⟨hEz8, _, hB⟩
 obtain ⟨⟨hz8_2, hy8_2⟩, ⟨hz8_4, hy8_4⟩, ⟨hz8_5, hy8_5⟩, hx8_2_4, hx8_2_5, hx8_4_5, _⟩ := hB (hall 6 (by simp))
 have hB9 := hB4.ext hEz8 (by simp)
 have hw8_2 : w.heap.size ≤ x1_2 := Nat.le_trans hE6.size hy8_2
 have hw8_4 : w.heap.size ≤ x1_4 := Nat.le_trans hE6.size hy8_4
 have hw8_5 : w.heap.size ≤ x1_5 := Nat.le_trans hE6.size hy8_5
 have hE10 := hE6.trans0 hEz8
 replace hS := hS.kp [(0, .agg S.ca), (1, (Pv w.heap.size)), (2, .pointer none), (3, (Pv x1_5))]
 refine hK7 _ _ <| sq fun K11 hK11 => ?_
 obtain ⟨es, hem, hes⟩ := hz8_2
 refine gh3 (G := World × (List Se) × World) [.q (.ld ((Pv x1_4))), .q .p, .q (.ld (S.nv)), .q (.run (I6 S.ns.length)), .e, .q .p, .e, .q .p, .q .p, .e] [0, 0, 0, 0, 0, 0, 1, 2, 2, 2] [2, 0, 0, 0, 0, 1, 1, 2, 2, 2] [0, 0, 2, 6, 14, 0, 62, 127, 255, 511] [4, 6, 9] [(4, 0), (6, 1), (9, 2)] 3 (fun ⟨wm12, fs13, wc13⟩ => ([(0, .agg S.ca), (1, (Pv w.heap.size)), (2, .pointer none), (3, (Pv x1_5)), (9, (Pv x1_4)), (10, (Po w.heap.size 1)), (11, S.nv), (12, I6 S.ns.length), (13, Sn S wz8.heap.size), (14, .func (.func 90) #[] #[(Pv x1_5), (Pv w.heap.size)]), (15, Sn S wz8.heap.size), (16, (Pv x1_4)), (17, (Po x1_4 5))] : Fm)) (fun ⟨wm12, fs13, wc13⟩ => [wz8.drew, wm12, wc13, upd (wc13) (x1_4) 105 #[S.lv, S.nv, I6 S.st, S.pv, Sn S x1_2, Sn S wz8.heap.size]]) (wz8.drew) (fun e ⟨wm12, fs13, wc13⟩ => hAt [True, (OwnR wm12 110 2 wz8.heap.size S.ns.length S.ns.length (List.replicate (S.ns.length * 2) (Value.int .u64 0))) ∧ (Ext [] wz8.drew wm12) ∧ True, (OwnR wm12 110 2 wz8.heap.size S.ns.length S.ns.length (List.replicate (S.ns.length * 2) (Value.int .u64 0))) ∧ (Ext [] wz8.drew wm12) ∧ (Blk wc13 x1_4 105 (#[S.lv, S.nv, I6 S.st, S.pv, Sn S x1_2, Sn S wz8.heap.size])) ∧ (OwnR wc13 110 2 wz8.heap.size S.ns.length S.ns.length (secs fs13)) ∧ (FsS S es fs13) ∧ (IsF S.g S.nl (hF fs13)) ∧ (Ext [wz8.heap.size, x1_4] wm12 wc13) ∧ True, (OwnR wm12 110 2 wz8.heap.size S.ns.length S.ns.length (List.replicate (S.ns.length * 2) (Value.int .u64 0))) ∧ (Ext [] wz8.drew wm12) ∧ (Blk wc13 x1_4 105 (#[S.lv, S.nv, I6 S.st, S.pv, Sn S x1_2, Sn S wz8.heap.size])) ∧ (OwnR wc13 110 2 wz8.heap.size S.ns.length S.ns.length (secs fs13)) ∧ (FsS S es fs13) ∧ (IsF S.g S.nl (hF fs13)) ∧ (Ext [wz8.heap.size, x1_4] wm12 wc13) ∧ True] e) (fun ⟨wm12, fs13, wc13⟩ w' => [(0, [w'.cell? ⟨x1_5, 0, none⟩ = some ((Pv x1_4))]), (2, [w'.cell? ⟨w.heap.size, 1, none⟩ = some (S.nv)]), (3, [Rv (Builtin.len_ #[23] 3 #[S.nv]) (I6 S.ns.length) w'])]) (w, ([]), w) [0, 1, 2, 3] [] hS (fun ⟨wm12, fs13, wc13⟩ _ => by kernel_rfl) trivial ?_ ?_ ?_
 ·rintro e ⟨wm12, fs13, wc13⟩ w' hw hH
  refine (.c ?_ (.c ?_ (.c ?_ .nil)))
  ·intro h1 h2
   replace h1 : 0 ≤ e := h1
   replace h2 : e ≤ 2 := h2
   have he : e = 0 ∨ e = 1 ∨ e = 2 := by omega
   rcases he with rfl | rfl | rfl
   ·have hwe : wz8.drew = w' := hwz hw
    subst hwe
    clear hH
    exact (.c ((hz8_5.drew : Blk wz8.drew x1_5 106 (#[(Pv x1_4)])).cell 0 rfl) .nil)
   ·have hwe : wm12 = w' := hwz hw
    subst hwe
    obtain ⟨hOm12, hEm12, _⟩ := hH
    exact (.c (((hz8_5.drew : Blk wz8.drew x1_5 106 (#[(Pv x1_4)])).ext hEm12 (by simp) : Blk wm12 x1_5 106 (#[(Pv x1_4)])).cell 0 rfl) .nil)
   ·have hwe : wc13 = w' := hwz hw
    subst hwe
    obtain ⟨hOm12, hEm12, hB13, hO13, hS13, hF13, hEc13, _⟩ := hH
    exact (.c ((((hz8_5.drew : Blk wz8.drew x1_5 106 (#[(Pv x1_4)])).ext hEm12 (by simp) : Blk wm12 x1_5 106 (#[(Pv x1_4)])).ext hEc13 (by simp only [List.mem_cons, List.not_mem_nil, or_false, not_or]; exact ⟨(Nat.ne_of_lt hz8_5.lt), (Ne.symm hx8_4_5)⟩) : Blk wc13 x1_5 106 (#[(Pv x1_4)])).cell 0 rfl) .nil)
  ·intro h1 h2
   obtain rfl := Nat.le_antisymm h2 h1
   have hwe : wz8.drew = w' := hwz hw
   subst hwe
   clear hH
   exact (.c ((hB9.drew : Blk wz8.drew w.heap.size 26 (S.ca)).cell 1 rfl) .nil)
  ·intro h1 h2
   obtain rfl := Nat.le_antisymm h2 h1
   have hwe : wz8.drew = w' := hwz hw
   subst hwe
   clear hH
   exact (.c (rlr 9 hG.names) .nil)
 ·refine (.c ?eq14_4 (.c ?eq14_6 (.c ?eq14_9 .nil)))
  ·rintro ⟨wm12, fs13, wc13⟩ hH
   clear hH
   refine eff_gh (wz8.drew) (by kernel_rfl) ?_
   obtain ⟨wN, hrN, hON, hEN, hsN⟩ := make_full (P := Tryd.prog) (w := wz8.drew) (T := 103) (E := 110) (size := 2) (bytes := 16) (z := #[.int .u64 0, .int .u64 0]) (Value.int .u64 0) (l := S.ns.length) (by kernel_rfl) (by kernel_rfl) (by rfl) (by omega) (by omega) (by omega)
   rw [show (wz8.drew).heap.size = wz8.heap.size by first | rfl | simp [upd_size]] at hrN hON hsN
   exact upon_run (s := vS (Instr.makeSlice 103 (I6 S.ns.length) (I6 S.ns.length))) (d := (some 13)) (v := Value.slice (some ⟨wz8.heap.size, 0, none⟩) S.ns.length S.ns.length) (by kernel_rfl) hrN ⟨(wN, fs13, wc13), by kernel_rfl, by kernel_rfl, by kernel_rfl, ⟨hON, hEN, trivial⟩⟩
  ·rintro ⟨wm12, fs13, wc13⟩ hH
   obtain ⟨hOm12, hEm12, _⟩ := hH
   refine eff_gh (wm12) (by kernel_rfl) ?_
   refine upon_call (f := 56) (vs := [Sn S wz8.heap.size, .func (.func 90) #[] #[(Pv x1_5), (Pv w.heap.size)]]) (cap := #[]) (d := (some 15)) (by kernel_rfl) Tryd.call56 #[Sn S wz8.heap.size, .func (.func 90) #[] #[(Pv x1_5), (Pv w.heap.size)]] (by kernel_rfl) (fixedG_any hG ((hb.trans0 hE10).trans0 ((((Ext.refl [] _).drew)).trans0 hEm12)) hI hlx ((hB9.drew : Blk wz8.drew w.heap.size 26 (S.ca)).ext hEm12 (by simp)) ((hz8_5.drew : Blk wz8.drew x1_5 106 (#[(Pv x1_4)])).ext hEm12 (by simp)) ((hz8_4.drew : Blk wz8.drew x1_4 105 (#[S.lv, S.nv, I6 S.st, S.pv, Sn S x1_2, .slice none 0 0])).ext hEm12 (by simp)) ((hem.drew : OwnR wz8.drew 4 1 x1_2 S.ns.length S.ns.length (bls es)).ext hEm12 (by simp)) (show OwnR wm12 110 2 (wz8.heap.size) S.ns.length S.ns.length (secs (List.replicate S.ns.length (0, 0))) from secs_rep S.ns.length ▸ hOm12) (Nat.le_trans hb.size hE10.size) (Nat.le_trans hb.size hw8_4) hes (.start S es)) ?_
   rintro _ wc13 ⟨fs13, rfl, hB13, hO13, hS13, hF13, hEc13⟩
   exact ⟨_, rfl, ⟨(wm12, fs13, wc13), by kernel_rfl, by kernel_rfl, by kernel_rfl, ⟨hOm12, hEm12, hB13, hO13, hS13, hF13, hEc13, trivial⟩⟩⟩
  ·rintro ⟨wm12, fs13, wc13⟩ hH
   obtain ⟨hOm12, hEm12, hB13, hO13, hS13, hF13, hEc13, _⟩ := hH
   refine eff_gh (wc13) (by kernel_rfl) ?_
   exact upon_store (b := x1_4) (off := 5) (vs := [Sn S wz8.heap.size]) (by kernel_rfl) (hB13 : Blk wc13 x1_4 105 (#[S.lv, S.nv, I6 S.st, S.pv, Sn S x1_2, Sn S wz8.heap.size])) (by simp) ⟨(wm12, fs13, wc13), by kernel_rfl, by kernel_rfl, by kernel_rfl, ⟨hOm12, hEm12, hB13, hO13, hS13, hF13, hEc13, trivial⟩⟩
 rintro ⟨wm12, fs13, wc13⟩ a w15 hS hw16 hH
 obtain ⟨hOm12, hEm12, hB13, hO13, hS13, hF13, hEc13, _⟩ := hH
 replace hw16 : w15 = upd (wc13) (x1_4) 105 #[S.lv, S.nv, I6 S.st, S.pv, Sn S x1_2, Sn S wz8.heap.size] := hw16.trans (by kernel_rfl)
 have hB18 := OwnR.at' hw16 ((((hem.drew : OwnR wz8.drew 4 1 x1_2 S.ns.length S.ns.length (bls es)).ext hEm12 (by simp) : OwnR wm12 4 1 x1_2 S.ns.length S.ns.length (bls es)).ext hEc13 (by simp only [List.mem_cons, List.not_mem_nil, or_false, not_or]; exact ⟨(Nat.ne_of_lt hem.lt), hx8_2_4⟩)).updNe (Ne.symm hx8_2_4) _ _)
 have hB19 : Blk w15 x1_4 105 (#[S.lv, S.nv, I6 S.st, S.pv, Sn S x1_2, Sn S wz8.heap.size]) := by rw [hw16]; exact (hB13).upd _ _
 have hB20 := Blk.at' hw16 ((((hz8_5.drew : Blk wz8.drew x1_5 106 (#[(Pv x1_4)])).ext hEm12 (by simp) : Blk wm12 x1_5 106 (#[(Pv x1_4)])).ext hEc13 (by simp only [List.mem_cons, List.not_mem_nil, or_false, not_or]; exact ⟨(Nat.ne_of_lt hz8_5.lt), (Ne.symm hx8_4_5)⟩)).updNe hx8_4_5 _ _)
 have hB21 : OwnR w15 110 2 wz8.heap.size S.ns.length S.ns.length (secs fs13) := by rw [hw16]; exact (hO13).updNe (Nat.ne_of_lt hz8_4.lt) _ _
 have hE22 : Ext [] w w15 := by rw [hw16]; exact (((hE10.drew).trans0 hEm12).trans hEc13 (fun b hbM => by simp at hbM; exact hbM.elim (fun hbM => by rw [hbM]; exact .inr hE10.size) fun hbM => by rw [hbM]; exact .inr hw8_4)).updIn (.inr hw8_4) _ _
 replace hS := hS.kp [(0, .agg S.ca), (1, (Pv w.heap.size)), (2, .pointer none), (3, (Pv x1_5))]
 refine hK11 _ _ <| sdq 2 [.ld ((Pv x1_4)), .p] [_] [(2, (Pv x1_4))] [] hS (hB20.k 0 .nil) fun a hS => wpIn_ret ?_
 refine ret1 hS Tryd.results54 rfl ?_
 exact ⟨_, _, _, es, _, rfl, ⟨hB19, hB18, hB21, hes, hS13, hF13⟩, hE22⟩
end Go.Proofs.YtkkpghlcmcaoiaaDoor
