import Derived.Test.YtkkpghlcmcaoiaaDoorS2
namespace Go.Proofs.YtkkpghlcmcaoiaaDoor
open Go.Vc Go.Gm
theorem good81_any {w : World} (x y : Int) :
  Calls Tryd.prog 81 #[.agg #[I6 x, I6 y]] w fun e w' => e = .returned (.bool true) ∧ Ext [] w w' := by
 refine cbd 3 [(0, .agg #[I6 x, I6 y])] Tryd.func81 rfl fun a hS => ?_
 have hE0 : Ext [] w w := Ext.refl _ _
 refine sq fun K1 hK1 => rgn 2 <| ebx 1 #[I6 x, I6 y] 61 (some 1) hS fun a w2 hw3 hS => ?_
 have hs5 := hE0.size
 have hE6 := hE0.al hw3
 refine sd ww [.p] [] [(2, .bool false)] [] 2 0 hS .nil fun a hS => sge hK1 <| sdq 1 [.p] [] [(2, .bool true)] [] hS .nil fun a hS => wpIn_ret ?_
 refine ret1 hS Tryd.results81 rfl ?_
 exact ⟨rfl, hE6⟩
theorem good89_any {w : World} (x y : Int) :
  Calls Tryd.prog 89 #[.agg #[I6 x, I6 y]] w fun e w' => e = .returned (.bool false) ∧ Ext [] w w' := by
 refine cbd 3 [(0, .agg #[I6 x, I6 y])] Tryd.func89 rfl fun a hS => ?_
 have hE0 : Ext [] w w := Ext.refl _ _
 refine sq fun K1 hK1 => rgn 2 <| ebx 1 #[I6 x, I6 y] 61 (some 1) hS fun a w2 hw3 hS => ?_
 have hs5 := hE0.size
 have hE6 := hE0.al hw3
 refine sd ww [.p] [] [(2, .bool false)] [] 2 0 hS .nil fun a hS => sge hK1 <| sdq 1 [.p] [] [] [] hS .nil fun a hS => wpIn_ret ?_
 refine ret1 hS Tryd.results89 rfl ?_
 exact ⟨rfl, hE6⟩
theorem badT_any {w : World} {n cp g tb fb : Nat} {bs : List Bool} (htb : Blk w tb 31 #[Sl g n cp]) (hfb : Blk w fb 59 #[.func (.func 81) #[] #[]]) (hg : OwnR w 4 1 g cp n (bls bs)) (x : Sy) (hx : x.1 = 3 → 0 ≤ x.2 ∧ x.2 < n) :
  Calls Tryd.prog 106 #[.agg #[I6 x.1, I6 x.2], (Pv tb), (Pv fb)] w fun e w' => e = .returned (.bool (!okS true bs (sm x))) ∧ Ext [] w w' := by
 have hbl : bs.length = n := by have := hg.len; rw [bls_len] at this; omega
 refine cbd 27 [(0, .agg #[I6 x.1, I6 x.2]), (1, (Pv tb)), (2, (Pv fb))] Tryd.func106 rfl fun a hS => ?_
 have hE0 : Ext [] w w := Ext.refl _ _
 refine sq fun K1 hK1 => rgn 2 <| ebx 1 #[I6 x.1, I6 x.2] 61 (some 3) hS fun a w2 hw3 hS => ?_
 have hB7 := Blk.at' hw3 (htb.alloc _)
 have hB8 := Blk.at' hw3 (hfb.alloc _)
 have hB9 := OwnR.at' hw3 (hg.alloc _)
 have hB10 := Blk.nw hw3
 have hs11 := hE0.size
 have hE12 := hE0.al hw3
 refine sd ww [.p] [] [(4, .bool false)] [] 2 0 hS .nil fun a hS => sge hK1 <| sq fun K13 hK13 => ?_
 rcases (show (x.1 = 3 ∧ bs[x.2.toNat]? = some true) ∨ (x.1 = 3 ∧ bs[x.2.toNat]? = some false) ∨ (x.1 ≠ 3) from md_cases hbl hx) with ⟨h1, h2⟩ | ⟨h1, h2⟩ | h1
 ·
  have hxx := hx h1
  refine rgn 23 <| sd ww [.p, .ld (I6 x.1), .as (.bool true), .p, .ld (Sl g n cp), .p, .ld (I6 x.2), .run ((Po g (0 + x.2.toNat * 1))), .ld (.bool true), .p, .p, .p, .p, .ld (I6 x.1), .as (.bool false), .p, .no, .no, .no, .no, .p, .p, .p] [_, Value.bool (((x.1 : Int) == 3)) = .bool true, _, _, Rv (Instr.indexAt 31 (Sl g n cp) (I6 x.2)) ((Po g (0 + x.2.toNat * 1))) w2, w2.cell? ⟨g, 0 + x.2.toNat * 1, none⟩ = some (.bool true), _, Value.bool (((x.1 : Int) != 3)) = .bool false] [] [] 23 0 hS (hB10.k 0 (.c (as_eq_t (by omega)) (hB7.k 0 (hB10.k 1 (.c (ixz 4 1 x.2) (.c ((hB9).cellAt _ (bls_at h2)) (hB10.k 0 (.c (as_ne_f (by omega)) .nil)))))))) fun a hS => sge hK13 <| wpIn_ret ?_
  refine ret1 hS Tryd.results106 rfl ?_
  exact ⟨by rw [okS_m h1 h2]; rfl, hE12⟩
 ·
  have hxx := hx h1
  refine rgn 23 <| sd ww [.p, .ld (I6 x.1), .as (.bool true), .p, .ld (Sl g n cp), .p, .ld (I6 x.2), .run ((Po g (0 + x.2.toNat * 1))), .ld (.bool false), .p, .p, .p, .no, .no, .no, .no, .no, .no, .no, .no, .no, .p, .p] [_, Value.bool (((x.1 : Int) == 3)) = .bool true, _, _, Rv (Instr.indexAt 31 (Sl g n cp) (I6 x.2)) ((Po g (0 + x.2.toNat * 1))) w2, w2.cell? ⟨g, 0 + x.2.toNat * 1, none⟩ = some (.bool false)] [(4, .bool true)] [] 23 0 hS (hB10.k 0 (.c (as_eq_t (by omega)) (hB7.k 0 (hB10.k 1 (.c (ixz 4 1 x.2) (.c ((hB9).cellAt _ (bls_at h2)) .nil)))))) fun a hS => sge hK13 <| wpIn_ret ?_
  refine ret1 hS Tryd.results106 rfl ?_
  exact ⟨by rw [okS_m h1 h2]; rfl, hE12⟩
 ·
  refine rgn 23 <| sd ww [.p, .ld (I6 x.1), .as (.bool false), .p, .no, .no, .no, .no, .no, .no, .p, .p, .p, .ld (I6 x.1), .as (.bool true), .p, .ld (.func (.func 81) #[] #[]), .lds [I6 x.1, I6 x.2]] [_, Value.bool (((x.1 : Int) == 3)) = .bool false, _, Value.bool (((x.1 : Int) != 3)) = .bool true, _, _, _] [(16, .bool false), (20, .bool true), (21, .func (.func 81) #[] #[]), (22, .agg #[I6 x.1, I6 x.2])] [] 18 5 hS (hB10.k 0 (.c (as_eq_f (by omega)) (hB10.k 0 (.c (as_ne_t (by omega)) (hB8.k 0 (hB10.k 0 (hB10.k 1 .nil))))))) fun a hS => ecl 4 (some 23) hS Tryd.call81 #[.agg #[I6 x.1, I6 x.2]] (good81_any _ _) ?_
  rintro _ wc14 ⟨rfl, hEc14⟩
  refine ⟨_, rfl, fun a hS => ?_⟩
  have hE19 := hE12.trans0 hEc14
  refine sd ww [.p, .p, .p, .p] [] [] [] 23 0 hS .nil fun a hS => sge hK13 <| wpIn_ret ?_
  refine ret1 hS Tryd.results106 rfl ?_
  exact ⟨by rw [okS_o h1]; rfl, hE19⟩
theorem indexBT_any {w0 w : World} {S : Sp} (hG : SpOk w0 S) (hb : Ext [] w0 w) (hI : Ix S) {p : Pd} (hpm : p ∈ S.ps) {n cp g tb fb : Nat} {bs : List Bool} (htb : Blk w tb 31 #[Sl g n cp]) (hfb : Blk w fb 59 #[.func (.func 81) #[] #[]]) (hg : OwnR w 4 1 g cp n (bls bs)) (hn : n = S.ns.length) :
  Calls Tryd.prog 111 #[p.rv, .func (.func 106) #[] #[(Pv tb), (Pv fb)]] w fun e w' => ∃ z : Int, e = .returned (I6 z) ∧ (0 ≤ z ↔ okA true bs (row p.r) = false) ∧ Ext [] w w' := by
 have hrm := hG.rmax p hpm
 refine cbd 19 [(0, p.rv), (1, .func (.func 106) #[] #[(Pv tb), (Pv fb)])] Tryd.func111 rfl fun a hS => ?_
 have hE0 : Ext [] w w := Ext.refl _ _
 refine sdq 1 [.p] [] [(4, I6 0)] [] hS .nil fun a hS => sq fun K2 hK2 => sdq 3 [.p, .run (I6 p.r.length), .p] [Rv (Builtin.len_ #[71] 3 #[p.rv]) (I6 p.r.length) w] [(7, I6 p.r.length), (8, I6 0)] [] hS (.c (rlr 61 (hG.right p hpm)) .nil) fun a hS => wpIn_block ?_
 have hbl4 := (hb.trans0 hE0)
 refine loop_ghost (fun (i : Nat) a' w' => St 19 [] [(0, p.rv), (1, .func (.func 106) #[] #[(Pv tb), (Pv fb)]), (4, I6 0), (7, I6 p.r.length), (8, I6 i)] a' ∧ Ext [] w w' ∧ i ≤ p.r.length ∧ okA true bs (row p.r) = okA true bs ((row p.r).drop i)) (fun (i : Nat) => p.r.length - i) 0 ⟨hS.keepTo [0, 1, 4, 7, 8] (by kernel_rfl), Ext.refl _ _, by omega, rfl⟩ ?_
 rintro i a wl4 ⟨hS, hXl4, hi, ha⟩
 have hB5 := htb.ext hXl4 (by simp)
 have hB6 := hfb.ext hXl4 (by simp)
 have hB7 := hg.ext hXl4 (by simp)
 refine sdq 1 [.p] [] [(9, .bool (decide ((↑i : Int) < ↑p.r.length)))] [] hS .nil fun a hS => sq fun K9 hK9 => ?_
 refine cond_b hS rfl (fun hb10 => ?_) (fun hb10 => ?_)
 ·
  replace hb10 := of_decide_eq_true hb10
  obtain ⟨x, hxk⟩ : ∃ x, p.r[i]? = some x := gE
  have hxm := List.mem_of_getElem? hxk
  rw [okA_step hxk] at ha
  refine wpIn_skip <| hK9 _ _ <| sq fun K11 hK11 => wpIn_block <| sdq 2 [.p, .p] [] [(5, I6 i)] [] hS .nil fun a hS => sq fun K13 hK13 => rgn 6 <| sd ww [.p, .p, .p, .run ((Po (bof p.rv) (oof p.rv + i * 2))), .lds [I6 x.1, I6 x.2]] [Rv (Instr.indexAt 71 (p.rv) (I6 i)) ((Po (bof p.rv) (oof p.rv + i * 2))) wl4, wl4.cell? ⟨bof p.rv, oof p.rv + i * 2, none⟩ = some (I6 x.1), wl4.cell? ⟨bof p.rv, oof p.rv + i * 2 + 1, none⟩ = some (I6 x.2)] [(11, .func (.func 106) #[] #[(Pv tb), (Pv fb)]), (15, .agg #[I6 x.1, I6 x.2])] [] 5 1 hS (.c (ixr 61 i (hG.right p hpm)) (.c (((hG.right p hpm).ext0 (hbl4.trans0 hXl4)).cellAt (i * 2 + 0) (by omega) (ycells_at p.r i 0 x hxk (by omega))) (.c (((hG.right p hpm).ext0 (hbl4.trans0 hXl4)).cellAt (i * 2 + 1) (by omega) (ycells_at p.r i 1 x hxk (by omega))) .nil))) fun a hS => eff_call ww (r := 0) (f := 106) (vs := [.agg #[I6 x.1, I6 x.2]]) (cap := #[(Pv tb), (Pv fb)]) (d := (some 16)) hS (by kernel_rfl) Tryd.call106 #[.agg #[I6 x.1, I6 x.2], (Pv tb), (Pv fb)] (by kernel_rfl) (badT_any hB5 hB6 hB7 x (fun h => by rw [hn]; exact hI.name hpm hxm h)) ?_
  rintro _ wc14 ⟨rfl, hEc14⟩
  refine ⟨_, rfl, fun a hS => ?_⟩
  have hE18 := hXl4.trans0 hEc14
  refine sge hK13 ?_
  refine cond_b hS rfl (fun hb19 => ?_) (fun hb19 => ?_)
  ·
   replace hb19 := hb19
   have hs : okS true bs (sm x) = false := by simpa using hb19
   rw [hs, Bool.false_and] at ha
   refine sdq 2 [.p, .p] [] [(4, I6 i)] [] hS .nil fun a hS => wpIn_ret <| inBlock_ret <| then_ret <| then_ret <| inBlock_ret <| then_ret ?_
   refine ret1 hS Tryd.results111 rfl ?_
   exact ⟨_, rfl, ⟨fun _ => ha, fun _ => by omega⟩, (hE0.trans0 hE18)⟩
  ·
   replace hb19 := hb19
   have hs : okS true bs (sm x) = true := by simpa using hb19
   rw [hs, Bool.true_and] at ha
   refine wpIn_skip <| inBlock_normal <| hK11 _ _ <| rgn 2 <| sd ww [.as (I6 (↑i + 1)), .p] [_] [(8, I6 (↑i + 1))] [] 2 0 hS (as6 (↑i + 1)) fun a hS => seg_end ?_
   exact ⟨i + 1, ⟨hS.kp [(0, p.rv), (1, .func (.func 106) #[] #[(Pv tb), (Pv fb)]), (4, I6 0), (7, I6 p.r.length), (8, I6 (↑i + 1))], hE18, by omega, ha⟩, by omega⟩
 ·
  replace hb10 := of_decide_eq_false hb10
  have hEl4 : Ext [] w wl4 := hE0.trans0 hXl4
  rw [List.drop_eq_nil_of_le (by rw [row_len]; omega)] at ha
  have ha' : okA true bs (row p.r) = true := ha
  refine xt2 <| hK2 _ _ <| sdq 1 [.p] [] [(4, I6 (-1))] [] hS .nil fun a hS => wpIn_ret ?_
  refine ret1 hS Tryd.results111 rfl ?_
  exact ⟨_, rfl, ⟨fun h => by omega, fun h => by rw [ha'] at h; cases h⟩, hEl4⟩
theorem containsBT_any {w0 w : World} {S : Sp} (hG : SpOk w0 S) (hb : Ext [] w0 w) (hI : Ix S) {p : Pd} (hpm : p ∈ S.ps) {n cp g tb fb : Nat} {bs : List Bool} (htb : Blk w tb 31 #[Sl g n cp]) (hfb : Blk w fb 59 #[.func (.func 81) #[] #[]]) (hg : OwnR w 4 1 g cp n (bls bs)) (hn : n = S.ns.length) :
  Calls Tryd.prog 107 #[p.rv, .func (.func 106) #[] #[(Pv tb), (Pv fb)]] w fun e w' => e = .returned (.bool (!okA true bs (row p.r))) ∧ Ext [] w w' := by
 refine cbd 9 [(0, p.rv), (1, .func (.func 106) #[] #[(Pv tb), (Pv fb)])] Tryd.func107 rfl fun a hS => ?_
 have hE0 : Ext [] w w := Ext.refl _ _
 refine sdq 1 [.p] [] [(4, .bool false)] [] hS .nil fun a hS => sq fun K2 hK2 => rgn 5 <| sd ww [.p, .p] [] [(5, p.rv), (6, .func (.func 106) #[] #[(Pv tb), (Pv fb)])] [] 2 3 hS .nil fun a hS => ecl 2 (some 7) hS Tryd.call111 #[p.rv, .func (.func 106) #[] #[(Pv tb), (Pv fb)]] (indexBT_any hG (hb.trans0 hE0) hI hpm htb hfb hg hn) ?_
 rintro _ wc3 ⟨z3, rfl, hz3, hEc3⟩
 refine ⟨_, rfl, fun a hS => ?_⟩
 have hE7 := hE0.trans0 hEc3
 refine sd ww [.p, .p] [] [(4, .bool (decide ((z3 : Int) ≥ 0)))] [] 5 0 hS .nil fun a hS => sge hK2 <| wpIn_ret ?_
 refine ret1 hS Tryd.results107 rfl ?_
 exact ⟨by rw [dec_not hz3], hE7⟩
theorem made1T_any {w0 w : World} {S : Sp} (hG : SpOk w0 S) (hb : Ext [] w0 w) (hI : Ix S) {cp g sb fb : Nat} {bs : List Bool} (hsb : Blk w sb 26 S.ca) (hfb : Blk w fb 59 #[.func (.func 81) #[] #[]]) (hg : OwnR w 4 1 g cp S.ns.length (bls bs)) (hgn : w0.heap.size ≤ g) (hs : MdS S true bs) :
  Calls Tryd.prog 105 #[Sl g S.ns.length cp, (Pv sb), (Pv fb)] w fun e w' => ∃ bs' gr, e = .returned (.tuple #[Sl g S.ns.length cp, .bool gr]) ∧ OwnR w' 4 1 g cp S.ns.length (bls bs') ∧ MdP S true S.ps.length bs bs' gr ∧ Ext [g] w w' := by
 have hlmax := hG.lmax
 have hnmax := hG.nmax
 have hpmax := hG.pmax
 refine cbd 38 [(0, Sl g S.ns.length cp), (1, (Pv sb)), (2, (Pv fb))] Tryd.func105 rfl fun a hS => ?_
 have hE0 : Ext [g] w w := Ext.refl _ _
 refine sq fun K1 hK1 => rgn 3 <| ebx 2 #[Sl g S.ns.length cp] 31 (some 3) hS fun a w2 hw3 hS => ?_
 have hn6 := Nat.ne_of_lt hg.lt
 have hB7 := Blk.at' hw3 (hsb.alloc _)
 have hB8 := Blk.at' hw3 (hfb.alloc _)
 have hB9 := OwnR.at' hw3 (hg.alloc _)
 have hB10 := Blk.nw hw3
 have hs11 := hE0.size
 have hE12 := hE0.al hw3
 refine sd ww [.p, .p] [] [(4, .slice none 0 0), (5, .bool false)] [] 3 0 hS .nil fun a hS => sge hK1 <| sdq 1 [.p] [] [(6, .bool false)] [] hS .nil fun a hS => sq fun K14 hK14 => sdq 4 [.p, .ld (S.pv), .run (I6 S.ps.length), .p] [_, Rv (Builtin.len_ #[24] 3 #[S.pv]) (I6 S.ps.length) w2] [(11, S.pv), (12, I6 S.ps.length), (13, I6 0)] [] hS (hB7.k 3 (.c (rlr 73 hG.prods) .nil)) fun a hS => wpIn_block ?_
 have hbl16 := (hb.t1 hE12 hgn)
 refine loop_ghost (fun ((i, bs1, gr) : Nat × (List Bool) × Bool) a' w' => St 38 [] [(2, (Pv fb)), (3, (Pv w.heap.size)), (11, S.pv), (12, I6 S.ps.length), (13, I6 i), (6, .bool gr)] a' ∧ Ext [g] w2 w' ∧ i ≤ S.ps.length ∧ OwnR w' 4 1 g cp S.ns.length (bls bs1) ∧ MdP S true i bs bs1 gr) (fun ((i, bs1, gr) : Nat × (List Bool) × Bool) => S.ps.length - i) (0, bs, false) ⟨hS.keepTo [2, 3, 11, 12, 13, 6] (by kernel_rfl), Ext.refl _ _, by omega, hB9, .start hs⟩ ?_
 rintro ⟨i, bs1, gr⟩ a wl16 ⟨hS, hXl16, hi, hg1, hP⟩
 have hB18 := hB8.ext hXl16 (by simpa using (OwnR.ne_type hB9 hB8 (by decide)).symm)
 have hB19 := hB10.ext hXl16 (by simpa using (Ne.symm hn6))
 refine sdq 1 [.p] [] [(14, .bool (decide ((↑i : Int) < ↑S.ps.length)))] [] hS .nil fun a hS => sq fun K21 hK21 => ?_
 refine cond_b hS rfl (fun hb22 => ?_) (fun hb22 => ?_)
 ·
  replace hb22 := of_decide_eq_true hb22
  obtain ⟨p, hpi⟩ : ∃ p, S.ps[i]? = some p := gE
  have hpm := List.mem_of_getElem? hpi
  have hrm := hG.rmax p hpm
  have hpl := hI.pl hpm
  have hbl := hP.snd.1
  refine wpIn_skip <| hK21 _ _ <| sq fun K23 hK23 => wpIn_block <| sq fun K24 hK24 => rgn 4 <| sd ww [.run ((Po (bof S.pv) (oof S.pv + i * 2))), .lds [I6 p.l, p.rv]] [Rv (Instr.indexAt 24 (S.pv) (I6 i)) ((Po (bof S.pv) (oof S.pv + i * 2))) wl16, wl16.cell? ⟨bof S.pv, oof S.pv + i * 2, none⟩ = some (I6 p.l), wl16.cell? ⟨bof S.pv, oof S.pv + i * 2 + 1, none⟩ = some (p.rv)] [(16, .agg #[I6 p.l, p.rv])] [] 2 2 hS (.c (ixr 73 i hG.prods) (.c ((hG.prods.ext0 (hbl16.t1 hXl16 hgn)).cellAt (i * 2 + 0) (by omega) (pcells_at S.ps i 0 p hpi (by omega))) (.c ((hG.prods.ext0 (hbl16.t1 hXl16 hgn)).cellAt (i * 2 + 1) (by omega) (pcells_at S.ps i 1 p hpi (by omega))) .nil))) fun a hS => ebx 1 #[I6 0, .slice none 0 0] 73 (some 8) hS fun a w25 hw26 hS => ?_
  have hn28 := Nat.ne_of_lt hB18.lt
  have hn29 := Nat.ne_of_lt hB19.lt
  have hn30 := Nat.ne_of_lt hg1.lt
  have hB32 := Blk.at' hw26 (hB18.alloc _)
  have hB33 := Blk.at' hw26 (hB19.alloc _)
  have hB34 := OwnR.at' hw26 (hg1.alloc _)
  have hB35 := Blk.nw hw26
  have hs36 := hXl16.size
  have hE37 := hXl16.al hw26
  refine est 0 wl16.heap.size 0 [I6 p.l, p.rv] hS hB35 fun a w38 hw39 hS => ?_
  have hB41 := Blk.at' hw39 (hB32.updNe (Ne.symm hn28) _ _)
  have hB42 := Blk.at' hw39 (hB33.updNe (Ne.symm hn29) _ _)
  have hB43 := OwnR.at' hw39 (hB34.updNe (Ne.symm hn30) _ _)
  have hB44 : Blk w38 wl16.heap.size 73 (#[I6 p.l, p.rv]) := hB35.up hw39
  have hE45 := hE37.ui hw39 hs36
  refine sge hK24 <| sdq 2 [.p, .p] [] [(9, .func (.func 106) #[] #[(Pv w.heap.size), (Pv fb)])] [] hS .nil fun a hS => sq fun K47 hK47 => ?_
  rcases (show (bs1[p.l.toNat]? = some true) ∨ (bs1[p.l.toNat]? = some false) from bool_cases (by omega)) with h1 | h1
  ·
   refine rgn 13 <| sd ww [.ld (Sl g S.ns.length cp), .p, .ld (I6 p.l), .run ((Po g (0 + p.l.toNat * 1))), .ld (.bool true), .p, .p, .no, .no, .no, .no, .no, .p] [_, _, Rv (Instr.indexAt 31 (Sl g S.ns.length cp) (I6 p.l)) ((Po g (0 + p.l.toNat * 1))) w38, w38.cell? ⟨g, 0 + p.l.toNat * 1, none⟩ = some (.bool true)] [(30, .bool false)] [] 13 0 hS (hB42.k 0 (hB44.k 0 (.c (ixz 4 1 p.l) (.c ((hB43).cellAt _ (bls_at h1)) .nil)))) fun a hS => sge hK47 ?_
   refine cond_f hS rfl ?_
   refine wpIn_skip <| inBlock_normal <| hK23 _ _ <| rgn 2 <| sd ww [.as (I6 (↑i + 1)), .p] [_] [(13, I6 (↑i + 1))] [] 2 0 hS (as6 (↑i + 1)) fun a hS => seg_end ?_
   exact ⟨(i + 1, bs1, gr), ⟨hS.kp [(2, (Pv fb)), (3, (Pv w.heap.size)), (11, S.pv), (12, I6 S.ps.length), (13, I6 (↑i + 1)), (6, .bool gr)], hE45, by omega, hB43, hP.skip (.on hpi h1)⟩, by simp only; omega⟩
  ·
   refine rgn 13 <| sd ww [.ld (Sl g S.ns.length cp), .p, .ld (I6 p.l), .run ((Po g (0 + p.l.toNat * 1))), .ld (.bool false), .p, .p, .p, .ld (p.rv), .p] [_, _, Rv (Instr.indexAt 31 (Sl g S.ns.length cp) (I6 p.l)) ((Po g (0 + p.l.toNat * 1))) w38, w38.cell? ⟨g, 0 + p.l.toNat * 1, none⟩ = some (.bool false), _] [(24, .bool true), (26, p.rv), (27, .func (.func 106) #[] #[(Pv w.heap.size), (Pv fb)])] [] 10 3 hS (hB42.k 0 (hB44.k 0 (.c (ixz 4 1 p.l) (.c ((hB43).cellAt _ (bls_at h1)) (hB44.k 1 .nil))))) fun a hS => ecl 2 (some 28) hS Tryd.call107 #[p.rv, .func (.func 106) #[] #[(Pv w.heap.size), (Pv fb)]] (containsBT_any hG (hbl16.t1 hE45 hgn) hI hpm hB42 hB41 hB43 rfl) ?_
   rintro _ wc48 ⟨rfl, hEc48⟩
   refine ⟨_, rfl, fun a hS => ?_⟩
   have hB51 := hB42.ext hEc48 (by simp)
   have hB52 := hB43.ext hEc48 (by simp)
   have hB53 := hB44.ext hEc48 (by simp)
   have hE54 := hE45.trans0 hEc48
   refine sd ww [.p, .p] [] [(30, .bool (!(!okA true bs1 (row p.r))))] [] 13 0 hS .nil fun a hS => sge hK47 ?_
   refine cond_b hS rfl (fun hb55 => ?_) (fun hb55 => ?_)
   ·
    replace hb55 := hb55
    have ho : okA true bs1 (row p.r) = true := by simpa using hb55
    refine rgn 6 <| sd ww [.ld (Sl g S.ns.length cp), .p, .ld (I6 p.l), .run ((Po g (0 + p.l.toNat * 1)))] [_, _, Rv (Instr.indexAt 31 (Sl g S.ns.length cp) (I6 p.l)) ((Po g (0 + p.l.toNat * 1))) wc48] [(34, (Po g (0 + p.l.toNat * 1)))] [] 4 2 hS (hB51.k 0 (hB53.k 0 (.c (ixz 4 1 p.l) .nil))) fun a hS => eff_store_own ww (r := 1) (b := g) (off := 0 + p.l.toNat * 1) (u := Value.bool true) (xs := (bls bs1)) hS (by kernel_rfl) hB52 (by omega) fun a ws56 hOs56 hEs56 hsz56 hS => ?_
    have hE61 : Ext [g] w2 ws56 := hE54.trans hEs56 (fun b hb => by simp at hb; subst hb; exact .inl (by simp))
    refine sg ww [.p] [] [(2, (Pv fb)), (3, (Pv w.heap.size)), (11, S.pv), (12, I6 S.ps.length), (13, I6 i), (6, .bool true), (14, .bool (decide ((↑i : Int) < ↑S.ps.length))), (8, (Pv wl16.heap.size)), (9, .func (.func 106) #[] #[(Pv w.heap.size), (Pv fb)]), (30, .bool (!(!okA true bs1 (row p.r))))] 6 0 hS .nil fun a hS => seg_end <| inBlock_normal <| hK23 _ _ <| rgn 2 <| sd ww [.as (I6 (↑i + 1)), .p] [_] [(13, I6 (↑i + 1))] [] 2 0 hS (as6 (↑i + 1)) fun a hS => seg_end ?_
    have hgs := hOs56
    rw [bls_set] at hgs
    exact ⟨(i + 1, (bs1.set p.l.toNat true), true), ⟨hS.kp [(2, (Pv fb)), (3, (Pv w.heap.size)), (11, S.pv), (12, I6 S.ps.length), (13, I6 (↑i + 1)), (6, .bool true)], hE61, by omega, hgs, hP.set (hP.snd.set hpm (by omega) ho) (count_on h1)⟩, by simp only; omega⟩
   ·
    replace hb55 := hb55
    have ho : okA true bs1 (row p.r) = false := by simpa using hb55
    refine wpIn_skip <| inBlock_normal <| hK23 _ _ <| rgn 2 <| sd ww [.as (I6 (↑i + 1)), .p] [_] [(13, I6 (↑i + 1))] [] 2 0 hS (as6 (↑i + 1)) fun a hS => seg_end ?_
    exact ⟨(i + 1, bs1, gr), ⟨hS.kp [(2, (Pv fb)), (3, (Pv w.heap.size)), (11, S.pv), (12, I6 S.ps.length), (13, I6 (↑i + 1)), (6, .bool gr)], hE54, by omega, hB52, hP.skip (.off hpi ho)⟩, by simp only; omega⟩
 ·
  replace hb22 := of_decide_eq_false hb22
  have hEl16 : Ext [g] w wl16 := hE12.trans hXl16 (fun b hbM => by simp at hbM; rw [hbM]; exact .inl (by simp))
  have hie : i = S.ps.length := by omega
  refine xt2 <| hK14 _ _ <| sdq 4 [.ld (Sl g S.ns.length cp), .p, .p, .p] [_] [(4, Sl g S.ns.length cp), (5, .bool gr)] [] hS (hB19.k 0 .nil) fun a hS => wpIn_ret ?_
  refine ret2 hS Tryd.results105 rfl rfl ?_
  exact ⟨bs1, gr, rfl, hg1, hie ▸ hP, hEl16⟩
theorem badF_any {w : World} {n cp g tb fb : Nat} {bs : List Bool} (htb : Blk w tb 31 #[Sl g n cp]) (hfb : Blk w fb 59 #[.func (.func 89) #[] #[]]) (hg : OwnR w 4 1 g cp n (bls bs)) (x : Sy) (hx : x.1 = 3 → 0 ≤ x.2 ∧ x.2 < n) :
  Calls Tryd.prog 106 #[.agg #[I6 x.1, I6 x.2], (Pv tb), (Pv fb)] w fun e w' => e = .returned (.bool (!okS false bs (sm x))) ∧ Ext [] w w' := by
 have hbl : bs.length = n := by have := hg.len; rw [bls_len] at this; omega
 refine cbd 27 [(0, .agg #[I6 x.1, I6 x.2]), (1, (Pv tb)), (2, (Pv fb))] Tryd.func106 rfl fun a hS => ?_
 have hE0 : Ext [] w w := Ext.refl _ _
 refine sq fun K1 hK1 => rgn 2 <| ebx 1 #[I6 x.1, I6 x.2] 61 (some 3) hS fun a w2 hw3 hS => ?_
 have hB7 := Blk.at' hw3 (htb.alloc _)
 have hB8 := Blk.at' hw3 (hfb.alloc _)
 have hB9 := OwnR.at' hw3 (hg.alloc _)
 have hB10 := Blk.nw hw3
 have hs11 := hE0.size
 have hE12 := hE0.al hw3
 refine sd ww [.p] [] [(4, .bool false)] [] 2 0 hS .nil fun a hS => sge hK1 <| sq fun K13 hK13 => ?_
 rcases (show (x.1 = 3 ∧ bs[x.2.toNat]? = some true) ∨ (x.1 = 3 ∧ bs[x.2.toNat]? = some false) ∨ (x.1 ≠ 3) from md_cases hbl hx) with ⟨h1, h2⟩ | ⟨h1, h2⟩ | h1
 ·
  have hxx := hx h1
  refine rgn 23 <| sd ww [.p, .ld (I6 x.1), .as (.bool true), .p, .ld (Sl g n cp), .p, .ld (I6 x.2), .run ((Po g (0 + x.2.toNat * 1))), .ld (.bool true), .p, .p, .p, .p, .ld (I6 x.1), .as (.bool false), .p, .no, .no, .no, .no, .p, .p, .p] [_, Value.bool (((x.1 : Int) == 3)) = .bool true, _, _, Rv (Instr.indexAt 31 (Sl g n cp) (I6 x.2)) ((Po g (0 + x.2.toNat * 1))) w2, w2.cell? ⟨g, 0 + x.2.toNat * 1, none⟩ = some (.bool true), _, Value.bool (((x.1 : Int) != 3)) = .bool false] [] [] 23 0 hS (hB10.k 0 (.c (as_eq_t (by omega)) (hB7.k 0 (hB10.k 1 (.c (ixz 4 1 x.2) (.c ((hB9).cellAt _ (bls_at h2)) (hB10.k 0 (.c (as_ne_f (by omega)) .nil)))))))) fun a hS => sge hK13 <| wpIn_ret ?_
  refine ret1 hS Tryd.results106 rfl ?_
  exact ⟨by rw [okS_m h1 h2]; rfl, hE12⟩
 ·
  have hxx := hx h1
  refine rgn 23 <| sd ww [.p, .ld (I6 x.1), .as (.bool true), .p, .ld (Sl g n cp), .p, .ld (I6 x.2), .run ((Po g (0 + x.2.toNat * 1))), .ld (.bool false), .p, .p, .p, .no, .no, .no, .no, .no, .no, .no, .no, .no, .p, .p] [_, Value.bool (((x.1 : Int) == 3)) = .bool true, _, _, Rv (Instr.indexAt 31 (Sl g n cp) (I6 x.2)) ((Po g (0 + x.2.toNat * 1))) w2, w2.cell? ⟨g, 0 + x.2.toNat * 1, none⟩ = some (.bool false)] [(4, .bool true)] [] 23 0 hS (hB10.k 0 (.c (as_eq_t (by omega)) (hB7.k 0 (hB10.k 1 (.c (ixz 4 1 x.2) (.c ((hB9).cellAt _ (bls_at h2)) .nil)))))) fun a hS => sge hK13 <| wpIn_ret ?_
  refine ret1 hS Tryd.results106 rfl ?_
  exact ⟨by rw [okS_m h1 h2]; rfl, hE12⟩
 ·
  refine rgn 23 <| sd ww [.p, .ld (I6 x.1), .as (.bool false), .p, .no, .no, .no, .no, .no, .no, .p, .p, .p, .ld (I6 x.1), .as (.bool true), .p, .ld (.func (.func 89) #[] #[]), .lds [I6 x.1, I6 x.2]] [_, Value.bool (((x.1 : Int) == 3)) = .bool false, _, Value.bool (((x.1 : Int) != 3)) = .bool true, _, _, _] [(16, .bool false), (20, .bool true), (21, .func (.func 89) #[] #[]), (22, .agg #[I6 x.1, I6 x.2])] [] 18 5 hS (hB10.k 0 (.c (as_eq_f (by omega)) (hB10.k 0 (.c (as_ne_t (by omega)) (hB8.k 0 (hB10.k 0 (hB10.k 1 .nil))))))) fun a hS => ecl 4 (some 23) hS Tryd.call89 #[.agg #[I6 x.1, I6 x.2]] (good89_any _ _) ?_
  rintro _ wc14 ⟨rfl, hEc14⟩
  refine ⟨_, rfl, fun a hS => ?_⟩
  have hE19 := hE12.trans0 hEc14
  refine sd ww [.p, .p, .p, .p] [] [(4, .bool true)] [] 23 0 hS .nil fun a hS => sge hK13 <| wpIn_ret ?_
  refine ret1 hS Tryd.results106 rfl ?_
  exact ⟨by rw [okS_o h1]; rfl, hE19⟩
theorem indexBF_any {w0 w : World} {S : Sp} (hG : SpOk w0 S) (hb : Ext [] w0 w) (hI : Ix S) {p : Pd} (hpm : p ∈ S.ps) {n cp g tb fb : Nat} {bs : List Bool} (htb : Blk w tb 31 #[Sl g n cp]) (hfb : Blk w fb 59 #[.func (.func 89) #[] #[]]) (hg : OwnR w 4 1 g cp n (bls bs)) (hn : n = S.ns.length) :
  Calls Tryd.prog 111 #[p.rv, .func (.func 106) #[] #[(Pv tb), (Pv fb)]] w fun e w' => ∃ z : Int, e = .returned (I6 z) ∧ (0 ≤ z ↔ okA false bs (row p.r) = false) ∧ Ext [] w w' := by
 have hrm := hG.rmax p hpm
 refine cbd 19 [(0, p.rv), (1, .func (.func 106) #[] #[(Pv tb), (Pv fb)])] Tryd.func111 rfl fun a hS => ?_
 have hE0 : Ext [] w w := Ext.refl _ _
 refine sdq 1 [.p] [] [(4, I6 0)] [] hS .nil fun a hS => sq fun K2 hK2 => sdq 3 [.p, .run (I6 p.r.length), .p] [Rv (Builtin.len_ #[71] 3 #[p.rv]) (I6 p.r.length) w] [(7, I6 p.r.length), (8, I6 0)] [] hS (.c (rlr 61 (hG.right p hpm)) .nil) fun a hS => wpIn_block ?_
 have hbl4 := (hb.trans0 hE0)
 refine loop_ghost (fun (i : Nat) a' w' => St 19 [] [(0, p.rv), (1, .func (.func 106) #[] #[(Pv tb), (Pv fb)]), (4, I6 0), (7, I6 p.r.length), (8, I6 i)] a' ∧ Ext [] w w' ∧ i ≤ p.r.length ∧ okA false bs (row p.r) = okA false bs ((row p.r).drop i)) (fun (i : Nat) => p.r.length - i) 0 ⟨hS.keepTo [0, 1, 4, 7, 8] (by kernel_rfl), Ext.refl _ _, by omega, rfl⟩ ?_
 rintro i a wl4 ⟨hS, hXl4, hi, ha⟩
 have hB5 := htb.ext hXl4 (by simp)
 have hB6 := hfb.ext hXl4 (by simp)
 have hB7 := hg.ext hXl4 (by simp)
 refine sdq 1 [.p] [] [(9, .bool (decide ((↑i : Int) < ↑p.r.length)))] [] hS .nil fun a hS => sq fun K9 hK9 => ?_
 refine cond_b hS rfl (fun hb10 => ?_) (fun hb10 => ?_)
 ·
  replace hb10 := of_decide_eq_true hb10
  obtain ⟨x, hxk⟩ : ∃ x, p.r[i]? = some x := gE
  have hxm := List.mem_of_getElem? hxk
  rw [okA_step hxk] at ha
  refine wpIn_skip <| hK9 _ _ <| sq fun K11 hK11 => wpIn_block <| sdq 2 [.p, .p] [] [(5, I6 i)] [] hS .nil fun a hS => sq fun K13 hK13 => rgn 6 <| sd ww [.p, .p, .p, .run ((Po (bof p.rv) (oof p.rv + i * 2))), .lds [I6 x.1, I6 x.2]] [Rv (Instr.indexAt 71 (p.rv) (I6 i)) ((Po (bof p.rv) (oof p.rv + i * 2))) wl4, wl4.cell? ⟨bof p.rv, oof p.rv + i * 2, none⟩ = some (I6 x.1), wl4.cell? ⟨bof p.rv, oof p.rv + i * 2 + 1, none⟩ = some (I6 x.2)] [(11, .func (.func 106) #[] #[(Pv tb), (Pv fb)]), (15, .agg #[I6 x.1, I6 x.2])] [] 5 1 hS (.c (ixr 61 i (hG.right p hpm)) (.c (((hG.right p hpm).ext0 (hbl4.trans0 hXl4)).cellAt (i * 2 + 0) (by omega) (ycells_at p.r i 0 x hxk (by omega))) (.c (((hG.right p hpm).ext0 (hbl4.trans0 hXl4)).cellAt (i * 2 + 1) (by omega) (ycells_at p.r i 1 x hxk (by omega))) .nil))) fun a hS => eff_call ww (r := 0) (f := 106) (vs := [.agg #[I6 x.1, I6 x.2]]) (cap := #[(Pv tb), (Pv fb)]) (d := (some 16)) hS (by kernel_rfl) Tryd.call106 #[.agg #[I6 x.1, I6 x.2], (Pv tb), (Pv fb)] (by kernel_rfl) (badF_any hB5 hB6 hB7 x (fun h => by rw [hn]; exact hI.name hpm hxm h)) ?_
  rintro _ wc14 ⟨rfl, hEc14⟩
  refine ⟨_, rfl, fun a hS => ?_⟩
  have hE18 := hXl4.trans0 hEc14
  refine sge hK13 ?_
  refine cond_b hS rfl (fun hb19 => ?_) (fun hb19 => ?_)
  ·
   replace hb19 := hb19
   have hs : okS false bs (sm x) = false := by simpa using hb19
   rw [hs, Bool.false_and] at ha
   refine sdq 2 [.p, .p] [] [(4, I6 i)] [] hS .nil fun a hS => wpIn_ret <| inBlock_ret <| then_ret <| then_ret <| inBlock_ret <| then_ret ?_
   refine ret1 hS Tryd.results111 rfl ?_
   exact ⟨_, rfl, ⟨fun _ => ha, fun _ => by omega⟩, (hE0.trans0 hE18)⟩
  ·
   replace hb19 := hb19
   have hs : okS false bs (sm x) = true := by simpa using hb19
   rw [hs, Bool.true_and] at ha
   refine wpIn_skip <| inBlock_normal <| hK11 _ _ <| rgn 2 <| sd ww [.as (I6 (↑i + 1)), .p] [_] [(8, I6 (↑i + 1))] [] 2 0 hS (as6 (↑i + 1)) fun a hS => seg_end ?_
   exact ⟨i + 1, ⟨hS.kp [(0, p.rv), (1, .func (.func 106) #[] #[(Pv tb), (Pv fb)]), (4, I6 0), (7, I6 p.r.length), (8, I6 (↑i + 1))], hE18, by omega, ha⟩, by omega⟩
 ·
  replace hb10 := of_decide_eq_false hb10
  have hEl4 : Ext [] w wl4 := hE0.trans0 hXl4
  rw [List.drop_eq_nil_of_le (by rw [row_len]; omega)] at ha
  have ha' : okA false bs (row p.r) = true := ha
  refine xt2 <| hK2 _ _ <| sdq 1 [.p] [] [(4, I6 (-1))] [] hS .nil fun a hS => wpIn_ret ?_
  refine ret1 hS Tryd.results111 rfl ?_
  exact ⟨_, rfl, ⟨fun h => by omega, fun h => by rw [ha'] at h; cases h⟩, hEl4⟩
theorem containsBF_any {w0 w : World} {S : Sp} (hG : SpOk w0 S) (hb : Ext [] w0 w) (hI : Ix S) {p : Pd} (hpm : p ∈ S.ps) {n cp g tb fb : Nat} {bs : List Bool} (htb : Blk w tb 31 #[Sl g n cp]) (hfb : Blk w fb 59 #[.func (.func 89) #[] #[]]) (hg : OwnR w 4 1 g cp n (bls bs)) (hn : n = S.ns.length) :
  Calls Tryd.prog 107 #[p.rv, .func (.func 106) #[] #[(Pv tb), (Pv fb)]] w fun e w' => e = .returned (.bool (!okA false bs (row p.r))) ∧ Ext [] w w' := by
 refine cbd 9 [(0, p.rv), (1, .func (.func 106) #[] #[(Pv tb), (Pv fb)])] Tryd.func107 rfl fun a hS => ?_
 have hE0 : Ext [] w w := Ext.refl _ _
 refine sdq 1 [.p] [] [(4, .bool false)] [] hS .nil fun a hS => sq fun K2 hK2 => rgn 5 <| sd ww [.p, .p] [] [(5, p.rv), (6, .func (.func 106) #[] #[(Pv tb), (Pv fb)])] [] 2 3 hS .nil fun a hS => ecl 2 (some 7) hS Tryd.call111 #[p.rv, .func (.func 106) #[] #[(Pv tb), (Pv fb)]] (indexBF_any hG (hb.trans0 hE0) hI hpm htb hfb hg hn) ?_
 rintro _ wc3 ⟨z3, rfl, hz3, hEc3⟩
 refine ⟨_, rfl, fun a hS => ?_⟩
 have hE7 := hE0.trans0 hEc3
 refine sd ww [.p, .p] [] [(4, .bool (decide ((z3 : Int) ≥ 0)))] [] 5 0 hS .nil fun a hS => sge hK2 <| wpIn_ret ?_
 refine ret1 hS Tryd.results107 rfl ?_
 exact ⟨by rw [dec_not hz3], hE7⟩
theorem made1F_any {w0 w : World} {S : Sp} (hG : SpOk w0 S) (hb : Ext [] w0 w) (hI : Ix S) {cp g sb fb : Nat} {bs : List Bool} (hsb : Blk w sb 26 S.ca) (hfb : Blk w fb 59 #[.func (.func 89) #[] #[]]) (hg : OwnR w 4 1 g cp S.ns.length (bls bs)) (hgn : w0.heap.size ≤ g) (hs : MdS S false bs) :
  Calls Tryd.prog 105 #[Sl g S.ns.length cp, (Pv sb), (Pv fb)] w fun e w' => ∃ bs' gr, e = .returned (.tuple #[Sl g S.ns.length cp, .bool gr]) ∧ OwnR w' 4 1 g cp S.ns.length (bls bs') ∧ MdP S false S.ps.length bs bs' gr ∧ Ext [g] w w' := by
 have hlmax := hG.lmax
 have hnmax := hG.nmax
 have hpmax := hG.pmax
 refine cbd 38 [(0, Sl g S.ns.length cp), (1, (Pv sb)), (2, (Pv fb))] Tryd.func105 rfl fun a hS => ?_
 have hE0 : Ext [g] w w := Ext.refl _ _
 refine sq fun K1 hK1 => rgn 3 <| ebx 2 #[Sl g S.ns.length cp] 31 (some 3) hS fun a w2 hw3 hS => ?_
 have hn6 := Nat.ne_of_lt hg.lt
 have hB7 := Blk.at' hw3 (hsb.alloc _)
 have hB8 := Blk.at' hw3 (hfb.alloc _)
 have hB9 := OwnR.at' hw3 (hg.alloc _)
 have hB10 := Blk.nw hw3
 have hs11 := hE0.size
 have hE12 := hE0.al hw3
 refine sd ww [.p, .p] [] [(4, .slice none 0 0), (5, .bool false)] [] 3 0 hS .nil fun a hS => sge hK1 <| sdq 1 [.p] [] [(6, .bool false)] [] hS .nil fun a hS => sq fun K14 hK14 => sdq 4 [.p, .ld (S.pv), .run (I6 S.ps.length), .p] [_, Rv (Builtin.len_ #[24] 3 #[S.pv]) (I6 S.ps.length) w2] [(11, S.pv), (12, I6 S.ps.length), (13, I6 0)] [] hS (hB7.k 3 (.c (rlr 73 hG.prods) .nil)) fun a hS => wpIn_block ?_
 have hbl16 := (hb.t1 hE12 hgn)
 refine loop_ghost (fun ((i, bs1, gr) : Nat × (List Bool) × Bool) a' w' => St 38 [] [(2, (Pv fb)), (3, (Pv w.heap.size)), (11, S.pv), (12, I6 S.ps.length), (13, I6 i), (6, .bool gr)] a' ∧ Ext [g] w2 w' ∧ i ≤ S.ps.length ∧ OwnR w' 4 1 g cp S.ns.length (bls bs1) ∧ MdP S false i bs bs1 gr) (fun ((i, bs1, gr) : Nat × (List Bool) × Bool) => S.ps.length - i) (0, bs, false) ⟨hS.keepTo [2, 3, 11, 12, 13, 6] (by kernel_rfl), Ext.refl _ _, by omega, hB9, .start hs⟩ ?_
 rintro ⟨i, bs1, gr⟩ a wl16 ⟨hS, hXl16, hi, hg1, hP⟩
 have hB18 := hB8.ext hXl16 (by simpa using (OwnR.ne_type hB9 hB8 (by decide)).symm)
 have hB19 := hB10.ext hXl16 (by simpa using (Ne.symm hn6))
 refine sdq 1 [.p] [] [(14, .bool (decide ((↑i : Int) < ↑S.ps.length)))] [] hS .nil fun a hS => sq fun K21 hK21 => ?_
 refine cond_b hS rfl (fun hb22 => ?_) (fun hb22 => ?_)
 ·
  replace hb22 := of_decide_eq_true hb22
  obtain ⟨p, hpi⟩ : ∃ p, S.ps[i]? = some p := gE
  have hpm := List.mem_of_getElem? hpi
  have hrm := hG.rmax p hpm
  have hpl := hI.pl hpm
  have hbl := hP.snd.1
  refine wpIn_skip <| hK21 _ _ <| sq fun K23 hK23 => wpIn_block <| sq fun K24 hK24 => rgn 4 <| sd ww [.run ((Po (bof S.pv) (oof S.pv + i * 2))), .lds [I6 p.l, p.rv]] [Rv (Instr.indexAt 24 (S.pv) (I6 i)) ((Po (bof S.pv) (oof S.pv + i * 2))) wl16, wl16.cell? ⟨bof S.pv, oof S.pv + i * 2, none⟩ = some (I6 p.l), wl16.cell? ⟨bof S.pv, oof S.pv + i * 2 + 1, none⟩ = some (p.rv)] [(16, .agg #[I6 p.l, p.rv])] [] 2 2 hS (.c (ixr 73 i hG.prods) (.c ((hG.prods.ext0 (hbl16.t1 hXl16 hgn)).cellAt (i * 2 + 0) (by omega) (pcells_at S.ps i 0 p hpi (by omega))) (.c ((hG.prods.ext0 (hbl16.t1 hXl16 hgn)).cellAt (i * 2 + 1) (by omega) (pcells_at S.ps i 1 p hpi (by omega))) .nil))) fun a hS => ebx 1 #[I6 0, .slice none 0 0] 73 (some 8) hS fun a w25 hw26 hS => ?_
  have hn28 := Nat.ne_of_lt hB18.lt
  have hn29 := Nat.ne_of_lt hB19.lt
  have hn30 := Nat.ne_of_lt hg1.lt
  have hB32 := Blk.at' hw26 (hB18.alloc _)
  have hB33 := Blk.at' hw26 (hB19.alloc _)
  have hB34 := OwnR.at' hw26 (hg1.alloc _)
  have hB35 := Blk.nw hw26
  have hs36 := hXl16.size
  have hE37 := hXl16.al hw26
  refine est 0 wl16.heap.size 0 [I6 p.l, p.rv] hS hB35 fun a w38 hw39 hS => ?_
  have hB41 := Blk.at' hw39 (hB32.updNe (Ne.symm hn28) _ _)
  have hB42 := Blk.at' hw39 (hB33.updNe (Ne.symm hn29) _ _)
  have hB43 := OwnR.at' hw39 (hB34.updNe (Ne.symm hn30) _ _)
  have hB44 : Blk w38 wl16.heap.size 73 (#[I6 p.l, p.rv]) := hB35.up hw39
  have hE45 := hE37.ui hw39 hs36
  refine sge hK24 <| sdq 2 [.p, .p] [] [(9, .func (.func 106) #[] #[(Pv w.heap.size), (Pv fb)])] [] hS .nil fun a hS => sq fun K47 hK47 => ?_
  rcases (show (bs1[p.l.toNat]? = some true) ∨ (bs1[p.l.toNat]? = some false) from bool_cases (by omega)) with h1 | h1
  ·
   refine rgn 13 <| sd ww [.ld (Sl g S.ns.length cp), .p, .ld (I6 p.l), .run ((Po g (0 + p.l.toNat * 1))), .ld (.bool true), .p, .p, .no, .no, .no, .no, .no, .p] [_, _, Rv (Instr.indexAt 31 (Sl g S.ns.length cp) (I6 p.l)) ((Po g (0 + p.l.toNat * 1))) w38, w38.cell? ⟨g, 0 + p.l.toNat * 1, none⟩ = some (.bool true)] [(30, .bool false)] [] 13 0 hS (hB42.k 0 (hB44.k 0 (.c (ixz 4 1 p.l) (.c ((hB43).cellAt _ (bls_at h1)) .nil)))) fun a hS => sge hK47 ?_
   refine cond_f hS rfl ?_
   refine wpIn_skip <| inBlock_normal <| hK23 _ _ <| rgn 2 <| sd ww [.as (I6 (↑i + 1)), .p] [_] [(13, I6 (↑i + 1))] [] 2 0 hS (as6 (↑i + 1)) fun a hS => seg_end ?_
   exact ⟨(i + 1, bs1, gr), ⟨hS.kp [(2, (Pv fb)), (3, (Pv w.heap.size)), (11, S.pv), (12, I6 S.ps.length), (13, I6 (↑i + 1)), (6, .bool gr)], hE45, by omega, hB43, hP.skip (.on hpi h1)⟩, by simp only; omega⟩
  ·
   refine rgn 13 <| sd ww [.ld (Sl g S.ns.length cp), .p, .ld (I6 p.l), .run ((Po g (0 + p.l.toNat * 1))), .ld (.bool false), .p, .p, .p, .ld (p.rv), .p] [_, _, Rv (Instr.indexAt 31 (Sl g S.ns.length cp) (I6 p.l)) ((Po g (0 + p.l.toNat * 1))) w38, w38.cell? ⟨g, 0 + p.l.toNat * 1, none⟩ = some (.bool false), _] [(24, .bool true), (26, p.rv), (27, .func (.func 106) #[] #[(Pv w.heap.size), (Pv fb)])] [] 10 3 hS (hB42.k 0 (hB44.k 0 (.c (ixz 4 1 p.l) (.c ((hB43).cellAt _ (bls_at h1)) (hB44.k 1 .nil))))) fun a hS => ecl 2 (some 28) hS Tryd.call107 #[p.rv, .func (.func 106) #[] #[(Pv w.heap.size), (Pv fb)]] (containsBF_any hG (hbl16.t1 hE45 hgn) hI hpm hB42 hB41 hB43 rfl) ?_
   rintro _ wc48 ⟨rfl, hEc48⟩
   refine ⟨_, rfl, fun a hS => ?_⟩
   have hB51 := hB42.ext hEc48 (by simp)
   have hB52 := hB43.ext hEc48 (by simp)
   have hB53 := hB44.ext hEc48 (by simp)
   have hE54 := hE45.trans0 hEc48
   refine sd ww [.p, .p] [] [(30, .bool (!(!okA false bs1 (row p.r))))] [] 13 0 hS .nil fun a hS => sge hK47 ?_
   refine cond_b hS rfl (fun hb55 => ?_) (fun hb55 => ?_)
   ·
    replace hb55 := hb55
    have ho : okA false bs1 (row p.r) = true := by simpa using hb55
    refine rgn 6 <| sd ww [.ld (Sl g S.ns.length cp), .p, .ld (I6 p.l), .run ((Po g (0 + p.l.toNat * 1)))] [_, _, Rv (Instr.indexAt 31 (Sl g S.ns.length cp) (I6 p.l)) ((Po g (0 + p.l.toNat * 1))) wc48] [(34, (Po g (0 + p.l.toNat * 1)))] [] 4 2 hS (hB51.k 0 (hB53.k 0 (.c (ixz 4 1 p.l) .nil))) fun a hS => eff_store_own ww (r := 1) (b := g) (off := 0 + p.l.toNat * 1) (u := Value.bool true) (xs := (bls bs1)) hS (by kernel_rfl) hB52 (by omega) fun a ws56 hOs56 hEs56 hsz56 hS => ?_
    have hE61 : Ext [g] w2 ws56 := hE54.trans hEs56 (fun b hb => by simp at hb; subst hb; exact .inl (by simp))
    refine sg ww [.p] [] [(2, (Pv fb)), (3, (Pv w.heap.size)), (11, S.pv), (12, I6 S.ps.length), (13, I6 i), (6, .bool true), (14, .bool (decide ((↑i : Int) < ↑S.ps.length))), (8, (Pv wl16.heap.size)), (9, .func (.func 106) #[] #[(Pv w.heap.size), (Pv fb)]), (30, .bool (!(!okA false bs1 (row p.r))))] 6 0 hS .nil fun a hS => seg_end <| inBlock_normal <| hK23 _ _ <| rgn 2 <| sd ww [.as (I6 (↑i + 1)), .p] [_] [(13, I6 (↑i + 1))] [] 2 0 hS (as6 (↑i + 1)) fun a hS => seg_end ?_
    have hgs := hOs56
    rw [bls_set] at hgs
    exact ⟨(i + 1, (bs1.set p.l.toNat true), true), ⟨hS.kp [(2, (Pv fb)), (3, (Pv w.heap.size)), (11, S.pv), (12, I6 S.ps.length), (13, I6 (↑i + 1)), (6, .bool true)], hE61, by omega, hgs, hP.set (hP.snd.set hpm (by omega) ho) (count_on h1)⟩, by simp only; omega⟩
   ·
    replace hb55 := hb55
    have ho : okA false bs1 (row p.r) = false := by simpa using hb55
    refine wpIn_skip <| inBlock_normal <| hK23 _ _ <| rgn 2 <| sd ww [.as (I6 (↑i + 1)), .p] [_] [(13, I6 (↑i + 1))] [] 2 0 hS (as6 (↑i + 1)) fun a hS => seg_end ?_
    exact ⟨(i + 1, bs1, gr), ⟨hS.kp [(2, (Pv fb)), (3, (Pv w.heap.size)), (11, S.pv), (12, I6 S.ps.length), (13, I6 (↑i + 1)), (6, .bool gr)], hE54, by omega, hB52, hP.skip (.off hpi ho)⟩, by simp only; omega⟩
 ·
  replace hb22 := of_decide_eq_false hb22
  have hEl16 : Ext [g] w wl16 := hE12.trans hXl16 (fun b hbM => by simp at hbM; rw [hbM]; exact .inl (by simp))
  have hie : i = S.ps.length := by omega
  refine xt2 <| hK14 _ _ <| sdq 4 [.ld (Sl g S.ns.length cp), .p, .p, .p] [_] [(4, Sl g S.ns.length cp), (5, .bool gr)] [] hS (hB19.k 0 .nil) fun a hS => wpIn_ret ?_
  refine ret2 hS Tryd.results105 rfl rfl ?_
  exact ⟨bs1, gr, rfl, hg1, hie ▸ hP, hEl16⟩
end Go.Proofs.YtkkpghlcmcaoiaaDoor
