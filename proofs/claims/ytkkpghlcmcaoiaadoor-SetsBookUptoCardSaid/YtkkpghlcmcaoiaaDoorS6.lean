import Derived.Test.YtkkpghlcmcaoiaaDoorS2
import Derived.Test.YtkkpghlcmcaoiaaDoorVw
import Derived.Test.YtkkpghlcmcaoiaaDoorSt
namespace Go.Proofs.YtkkpghlcmcaoiaaDoor
open Go.Vc Go.Gm
theorem termE_any {w : World} (x y : Int) :
  Calls Tryd.prog 82 #[.agg #[I6 x, I6 y]] w fun e w' => e = .returned (I6 257) ∧ Ext [] w w' := by
 refine cbd 3 [(0, .agg #[I6 x, I6 y])] Tryd.func82 rfl fun a hS => ?_
 have hE0 : Ext [] w w := Ext.refl _ _
 refine sq fun K1 hK1 => rgn 2 <| ebx 1 #[I6 x, I6 y] 61 (some 1) hS fun a w2 hw3 hS => ?_
 have hs5 := hE0.size
 have hE6 := hE0.al hw3
 refine sd ww [.p] [] [(2, I6 0)] [] 2 0 hS .nil fun a hS => sge hK1 <| sdq 1 [.p] [] [(2, I6 257)] [] hS .nil fun a hS => wpIn_ret ?_
 refine ret1 hS Tryd.results82 rfl ?_
 exact ⟨rfl, hE6⟩
theorem sums1E_any {w0 w : World} {S : Sp} (hG : SpOk w0 S) (hb : Ext [] w0 w) (hI : Ix S) {cp g sb ab fb mb : Nat} {vs : List Nat} (hsb : Blk w sb 26 S.ca) (hab : Blk w ab 3 #[I6 1]) (hfb : Blk w fb 118 #[.func (.func 82) #[] #[]]) (hmb : Blk w mb 3 #[I6 256]) (hg : OwnR w 3 1 g cp S.ns.length (ivs vs)) (hga : ab ≠ g) (hgm : mb ≠ g) (hgn : w0.heap.size ≤ g) (hs : SmS S 1 257 257 vs) :
  Calls Tryd.prog 93 #[Sl g S.ns.length cp, (Pv sb), (Pv ab), (Pv fb), (Pv mb)] w fun e w' => ∃ vs' gr, e = .returned (.tuple #[Sl g S.ns.length cp, .bool gr]) ∧ OwnR w' 3 1 g cp S.ns.length (ivs vs') ∧ SmP S 1 257 257 S.ps.length vs vs' gr ∧ Ext [g] w w' := by
 have hlmax := hG.lmax
 have hnmax := hG.nmax
 have hpmax := hG.pmax
 refine cbd 64 [(0, Sl g S.ns.length cp), (1, (Pv sb)), (2, (Pv ab)), (3, (Pv fb)), (4, (Pv mb))] Tryd.func93 rfl fun a hS => ?_
 have hE0 : Ext [g] w w := Ext.refl _ _
 refine sdq 2 [.p, .p] [] [(6, .slice none 0 0), (7, .bool false)] [] hS .nil fun a hS => sdq 1 [.p] [] [(8, .bool false)] [] hS .nil fun a hS => sq fun K3 hK3 => sdq 4 [.p, .ld (S.pv), .run (I6 S.ps.length), .p] [_, Rv (Builtin.len_ #[24] 3 #[S.pv]) (I6 S.ps.length) w] [(15, S.pv), (16, I6 S.ps.length), (17, I6 0)] [] hS (hsb.k 3 (.c (rlr 73 hG.prods) .nil)) fun a hS => wpIn_block ?_
 have hbl5 := (hb.t1 hE0 hgn)
 refine loop_ghost (fun ((i, vs1, gr) : Nat × (List Nat) × Bool) a' w' => St 64 [] [(0, Sl g S.ns.length cp), (2, (Pv ab)), (3, (Pv fb)), (4, (Pv mb)), (15, S.pv), (16, I6 S.ps.length), (17, I6 i), (8, .bool gr)] a' ∧ Ext [g] w w' ∧ i ≤ S.ps.length ∧ OwnR w' 3 1 g cp S.ns.length (ivs vs1) ∧ SmP S 1 257 257 i vs vs1 gr) (fun ((i, vs1, gr) : Nat × (List Nat) × Bool) => S.ps.length - i) (0, vs, false) ⟨hS.keepTo [0, 2, 3, 4, 15, 16, 17, 8] (by kernel_rfl), Ext.refl _ _, by omega, hg, .start hs⟩ ?_
 rintro ⟨i, vs1, gr⟩ a wl5 ⟨hS, hXl5, hi, hg1, hP⟩
 have hB7 := hab.ext hXl5 (by simpa using hga)
 have hB8 := hfb.ext hXl5 (by simpa using (OwnR.ne_type hg hfb (by decide)).symm)
 have hB9 := hmb.ext hXl5 (by simpa using hgm)
 refine sdq 1 [.p] [] [(18, .bool (decide ((↑i : Int) < ↑S.ps.length)))] [] hS .nil fun a hS => sq fun K11 hK11 => ?_
 refine cond_b hS rfl (fun hb12 => ?_) (fun hb12 => ?_)
 ·
  replace hb12 := of_decide_eq_true hb12
  obtain ⟨p, hpi⟩ : ∃ p, S.ps[i]? = some p := gE
  have hpm := List.mem_of_getElem? hpi
  have hrm := hG.rmax p hpm
  have hpl := hI.pl hpm
  have hvl := hP.snd.len
  refine wpIn_skip <| hK11 _ _ <| sq fun K13 hK13 => wpIn_block <| sq fun K14 hK14 => rgn 4 <| sd ww [.run ((Po (bof S.pv) (oof S.pv + i * 2))), .lds [I6 p.l, p.rv]] [Rv (Instr.indexAt 24 (S.pv) (I6 i)) ((Po (bof S.pv) (oof S.pv + i * 2))) wl5, wl5.cell? ⟨bof S.pv, oof S.pv + i * 2, none⟩ = some (I6 p.l), wl5.cell? ⟨bof S.pv, oof S.pv + i * 2 + 1, none⟩ = some (p.rv)] [(20, .agg #[I6 p.l, p.rv])] [] 2 2 hS (.c (ixr 73 i hG.prods) (.c ((hG.prods.ext0 (hbl5.t1 hXl5 hgn)).cellAt (i * 2 + 0) (by omega) (pcells_at S.ps i 0 p hpi (by omega))) (.c ((hG.prods.ext0 (hbl5.t1 hXl5 hgn)).cellAt (i * 2 + 1) (by omega) (pcells_at S.ps i 1 p hpi (by omega))) .nil))) fun a hS => ebx 1 #[I6 0, .slice none 0 0] 73 (some 10) hS fun a w15 hw16 hS => ?_
  have hn18 := Nat.ne_of_lt hB7.lt
  have hn19 := Nat.ne_of_lt hB8.lt
  have hn20 := Nat.ne_of_lt hB9.lt
  have hn21 := Nat.ne_of_lt hg1.lt
  have hB23 := Blk.at' hw16 (hB7.alloc _)
  have hB24 := Blk.at' hw16 (hB8.alloc _)
  have hB25 := Blk.at' hw16 (hB9.alloc _)
  have hB26 := OwnR.at' hw16 (hg1.alloc _)
  have hB27 := Blk.nw hw16
  have hs28 := hXl5.size
  have hE29 := hXl5.al hw16
  refine est 0 wl5.heap.size 0 [I6 p.l, p.rv] hS hB27 fun a w30 hw31 hS => ?_
  have hB33 := Blk.at' hw31 (hB23.updNe (Ne.symm hn18) _ _)
  have hB34 := Blk.at' hw31 (hB24.updNe (Ne.symm hn19) _ _)
  have hB35 := Blk.at' hw31 (hB25.updNe (Ne.symm hn20) _ _)
  have hB36 := OwnR.at' hw31 (hB26.updNe (Ne.symm hn21) _ _)
  have hB37 : Blk w30 wl5.heap.size 73 (#[I6 p.l, p.rv]) := hB27.up hw31
  have hE38 := hE29.ui hw31 hs28
  refine sge hK14 <| sdq 2 [.ld (I6 1), .p] [_] [(11, I6 1)] [] hS (hB33.k 0 .nil) fun a hS => sq fun K40 hK40 => sdq 4 [.p, .ld (p.rv), .run (I6 p.r.length), .p] [_, Rv (Builtin.len_ #[71] 3 #[p.rv]) (I6 p.r.length) w30] [(23, p.rv), (24, I6 p.r.length), (25, I6 0)] [] hS (hB37.k 1 (.c (rlr 61 (hG.right p hpm)) .nil)) fun a hS => wpIn_block ?_
  have hbl42 : Ext [] w0 w30 := (hbl5.t1 hE38 hgn)
  refine loop_ghost (fun ((k, m) : Nat × Nat) a' w' => St 64 [] [(0, Sl g S.ns.length cp), (2, (Pv ab)), (3, (Pv fb)), (4, (Pv mb)), (15, S.pv), (16, I6 S.ps.length), (17, I6 i), (8, .bool gr), (10, (Pv wl5.heap.size)), (23, p.rv), (24, I6 p.r.length), (25, I6 k), (11, I6 m)] a' ∧ Ext [] w30 w' ∧ k ≤ p.r.length ∧ Cap 257 m (sumV 257 (vf 257 vs1) ((row p.r).drop k)) (1 + sumV 257 (vf 257 vs1) (row p.r))) (fun ((k, m) : Nat × Nat) => p.r.length - k) (0, 1) ⟨hS.keepTo [0, 2, 3, 4, 15, 16, 17, 8, 10, 23, 24, 25, 11] (by kernel_rfl), Ext.refl _ _, by omega, Cap.start (by omega)⟩ ?_
  rintro ⟨k, m⟩ a wl42 ⟨hS, hXl42, hk, hm⟩
  have hB45 := hB34.ext hXl42 (by simp)
  have hB46 := hB35.ext hXl42 (by simp)
  have hB47 := hB36.ext hXl42 (by simp)
  have hB48 := hB37.ext hXl42 (by simp)
  refine sdq 1 [.p] [] [(26, .bool (decide ((↑k : Int) < ↑p.r.length)))] [] hS .nil fun a hS => sq fun K50 hK50 => ?_
  refine cond_b hS rfl (fun hb51 => ?_) (fun hb51 => ?_)
  ·
   replace hb51 := of_decide_eq_true hb51
   obtain ⟨x, hxk⟩ : ∃ x, p.r[k]? = some x := gE
   have hxm := List.mem_of_getElem? hxk
   have hmt := hm.1
   refine wpIn_skip <| hK50 _ _ <| sq fun K52 hK52 => wpIn_block <| sq fun K53 hK53 => rgn 4 <| sd ww [.run ((Po (bof p.rv) (oof p.rv + k * 2))), .lds [I6 x.1, I6 x.2]] [Rv (Instr.indexAt 71 (p.rv) (I6 k)) ((Po (bof p.rv) (oof p.rv + k * 2))) wl42, wl42.cell? ⟨bof p.rv, oof p.rv + k * 2, none⟩ = some (I6 x.1), wl42.cell? ⟨bof p.rv, oof p.rv + k * 2 + 1, none⟩ = some (I6 x.2)] [(28, .agg #[I6 x.1, I6 x.2])] [] 2 2 hS (.c (ixr 61 k (hG.right p hpm)) (.c (((hG.right p hpm).ext0 (hbl42.trans0 hXl42)).cellAt (k * 2 + 0) (by omega) (ycells_at p.r k 0 x hxk (by omega))) (.c (((hG.right p hpm).ext0 (hbl42.trans0 hXl42)).cellAt (k * 2 + 1) (by omega) (ycells_at p.r k 1 x hxk (by omega))) .nil))) fun a hS => ebx 1 #[I6 0, I6 0] 61 (some 13) hS fun a w54 hw55 hS => ?_
   have hn58 := Nat.ne_of_lt hB45.lt
   have hn59 := Nat.ne_of_lt hB46.lt
   have hn60 := Nat.ne_of_lt hB47.lt
   have hB64 := Blk.at' hw55 (hB45.alloc _)
   have hB65 := Blk.at' hw55 (hB46.alloc _)
   have hB66 := OwnR.at' hw55 (hB47.alloc _)
   have hB68 := Blk.nw hw55
   have hs69 := hXl42.size
   have hE70 := hXl42.al hw55
   refine est 0 wl42.heap.size 0 [I6 x.1, I6 x.2] hS hB68 fun a w71 hw72 hS => ?_
   have hB75 := Blk.at' hw72 (hB64.updNe (Ne.symm hn58) _ _)
   have hB76 := Blk.at' hw72 (hB65.updNe (Ne.symm hn59) _ _)
   have hB77 := OwnR.at' hw72 (hB66.updNe (Ne.symm hn60) _ _)
   have hB79 : Blk w71 wl42.heap.size 61 (#[I6 x.1, I6 x.2]) := hB68.up hw72
   have hE80 := hE70.ui hw72 hs69
   refine sge hK53 <| sq fun K81 hK81 => sq fun K82 hK82 => ?_
   rcases (show (x.1 = 3) ∨ (x.1 ≠ 3) from by omega) with h1 | h1
   ·
    have hxn := hI.name hpm hxm h1
    obtain ⟨v, hv⟩ : ∃ v, vs1[x.2.toNat]? = some v := gE
    have hsv := sumV_m (tc := 257) (top := 257) hxk h1 hv
    have hvt := hP.snd.le x.2.toNat
    rw [vf_at hv] at hvt
    refine rgn 3 <| sd ww [.p, .ld (I6 x.1), .as (.bool true)] [_, Value.bool (((x.1 : Int) == 3)) = .bool true] [(31, .bool true)] [] 3 0 hS (hB79.k 0 (.c (as_eq_t (by omega)) .nil)) fun a hS => sge hK82 ?_
    refine cond_t hS rfl ?_
    refine rgn 8 <| sd ww [.p, .p, .p, .ld (I6 x.2), .run ((Po g (0 + x.2.toNat * 1))), .ld (I6 v), .as (I6 (↑m + ↑v)), .p] [_, Rv (Instr.indexAt 51 (Sl g S.ns.length cp) (I6 x.2)) ((Po g (0 + x.2.toNat * 1))) w71, w71.cell? ⟨g, 0 + x.2.toNat * 1, none⟩ = some (I6 v), Value.int .i64 (IntKind.i64.wrap (↑m + ↑v)) = I6 (↑m + ↑v)] [(11, I6 (↑m + ↑v))] [] 8 0 hS (hB79.k 1 (.c (ixz 3 1 x.2) (.c ((hB77).cellAt _ (ivs_at hv)) (.c (as_i64 (by omega)) .nil)))) fun a hS => sge hK81 ?_
    obtain ⟨m2, hm2, hmv⟩ := min_case m v 257 (v' := ↑v) (t := 257) rfl rfl
    refine rgn 5 <| sd ww [.p, .ld (I6 256), .p, .as (I6 m2), .p] [_, Value.int .i64 (if (257 : Int) < ↑m + ↑v then 257 else ↑m + ↑v) = I6 m2] [(11, I6 m2)] [] 5 0 hS (hB76.k 0 (.c (hmv) .nil)) fun a hS => seg_end <| inBlock_normal <| hK52 _ _ <| rgn 2 <| sd ww [.as (I6 (↑k + 1)), .p] [_] [(25, I6 (↑k + 1))] [] 2 0 hS (as6 (↑k + 1)) fun a hS => seg_end ?_
    exact ⟨(k + 1, m2), ⟨hS.kp [(0, Sl g S.ns.length cp), (2, (Pv ab)), (3, (Pv fb)), (4, (Pv mb)), (15, S.pv), (16, I6 S.ps.length), (17, I6 i), (8, .bool gr), (10, (Pv wl5.heap.size)), (23, p.rv), (24, I6 p.r.length), (25, I6 (↑k + 1)), (11, I6 m2)], hE80, by omega, hm.step hsv hm2⟩, by simp only; omega⟩
   ·
    have hsv := sumV_o (tc := 257) (top := 257) (vs := vs1) hxk h1
    refine rgn 3 <| sd ww [.p, .ld (I6 x.1), .as (.bool false)] [_, Value.bool (((x.1 : Int) == 3)) = .bool false] [(31, .bool false)] [] 3 0 hS (hB79.k 0 (.c (as_eq_f (by omega)) .nil)) fun a hS => sge hK82 ?_
    refine cond_f hS rfl ?_
    refine rgn 6 <| sd ww [.p, .ld (.func (.func 82) #[] #[]), .lds [I6 x.1, I6 x.2]] [_, _, _] [(39, I6 m), (40, .func (.func 82) #[] #[]), (41, .agg #[I6 x.1, I6 x.2])] [] 3 3 hS (hB75.k 0 (hB79.k 0 (hB79.k 1 .nil))) fun a hS => ecl 2 (some 42) hS Tryd.call82 #[.agg #[I6 x.1, I6 x.2]] (termE_any _ _) ?_
    rintro _ wc83 ⟨rfl, hEc83⟩
    refine ⟨_, rfl, fun a hS => ?_⟩
    have hB87 := hB76.ext hEc83 (by simp)
    have hE91 := hE80.trans0 hEc83
    refine sd ww [.as (I6 (↑m + 257)), .p] [_] [(11, I6 (↑m + 257))] [] 6 0 hS (as6 (↑m + 257)) fun a hS => sge hK81 ?_
    obtain ⟨m2, hm2, hmv⟩ := min_case m 257 257 (v' := 257) (t := 257) rfl rfl
    refine rgn 5 <| sd ww [.p, .ld (I6 256), .p, .as (I6 m2), .p] [_, Value.int .i64 (if (257 : Int) < ↑m + 257 then 257 else ↑m + 257) = I6 m2] [(11, I6 m2)] [] 5 0 hS (hB87.k 0 (.c (hmv) .nil)) fun a hS => seg_end <| inBlock_normal <| hK52 _ _ <| rgn 2 <| sg ww [.as (I6 (↑k + 1)), .p] [_] [(0, Sl g S.ns.length cp), (2, (Pv ab)), (3, (Pv fb)), (4, (Pv mb)), (15, S.pv), (16, I6 S.ps.length), (17, I6 i), (8, .bool gr), (10, (Pv wl5.heap.size)), (23, p.rv), (24, I6 p.r.length), (25, I6 (↑k + 1)), (11, I6 m2), (26, .bool (decide ((↑k : Int) < ↑p.r.length))), (13, (Pv wl42.heap.size)), (31, .bool false)] 2 0 hS (as6 (↑k + 1)) fun a hS => seg_end ?_
    exact ⟨(k + 1, m2), ⟨hS.kp [(0, Sl g S.ns.length cp), (2, (Pv ab)), (3, (Pv fb)), (4, (Pv mb)), (15, S.pv), (16, I6 S.ps.length), (17, I6 i), (8, .bool gr), (10, (Pv wl5.heap.size)), (23, p.rv), (24, I6 p.r.length), (25, I6 (↑k + 1)), (11, I6 m2)], hE91, by omega, hm.step hsv hm2⟩, by simp only; omega⟩
  ·
   replace hb51 := of_decide_eq_false hb51
   have hEl42 : Ext [g] w wl42 := hE38.trans0 hXl42
   rw [List.drop_eq_nil_of_le (by rw [row_len]; omega), sumV] at hm
   have hme := hm.done
   obtain ⟨v, hv⟩ : ∃ v, vs1[p.l.toNat]? = some v := gE
   have hvt := hP.snd.le p.l.toNat
   rw [vf_at hv] at hvt
   refine xt2 <| hK40 _ _ <| sdq 7 [.p, .p, .p, .ld (I6 p.l), .run ((Po g (0 + p.l.toNat * 1))), .ld (I6 v), .p] [_, Rv (Instr.indexAt 51 (Sl g S.ns.length cp) (I6 p.l)) ((Po g (0 + p.l.toNat * 1))) wl42, wl42.cell? ⟨g, 0 + p.l.toNat * 1, none⟩ = some (I6 v)] [(55, .bool (decide ((↑m : Int) < ↑v)))] [] hS (hB48.k 0 (.c (ixz 3 1 p.l) (.c ((hB47).cellAt _ (ivs_at hv)) .nil))) fun a hS => ?_
   refine cond_b hS rfl (fun hb93 => ?_) (fun hb93 => ?_)
   ·
    replace hb93 := of_decide_eq_true hb93
    refine rgn 7 <| sd ww [.p, .p, .ld (I6 p.l), .p, .run ((Po g (0 + p.l.toNat * 1)))] [_, Rv (Instr.indexAt 51 (Sl g S.ns.length cp) (I6 p.l)) ((Po g (0 + p.l.toNat * 1))) wl42] [(59, I6 m), (60, (Po g (0 + p.l.toNat * 1)))] [] 5 2 hS (hB48.k 0 (.c (ixz 3 1 p.l) .nil)) fun a hS => eff_store_own ww (r := 1) (b := g) (off := 0 + p.l.toNat * 1) (u := Value.int .i64 ↑m) (xs := (ivs vs1)) hS (by kernel_rfl) hB47 (by omega) fun a ws94 hOs94 hEs94 hsz94 hS => ?_
    have hE100 : Ext [g] w ws94 := hEl42.trans hEs94 (fun b hb => by simp at hb; subst hb; exact .inl (by simp))
    refine sd ww [.p] [] [(8, .bool true)] [] 7 0 hS .nil fun a hS => seg_end <| inBlock_normal <| hK13 _ _ <| rgn 2 <| sd ww [.as (I6 (↑i + 1)), .p] [_] [(17, I6 (↑i + 1))] [] 2 0 hS (as6 (↑i + 1)) fun a hS => seg_end ?_
    have hgs := hOs94
    rw [ivs_set] at hgs
    exact ⟨(i + 1, (vs1.set p.l.toNat m), true), ⟨hS.kp [(0, Sl g S.ns.length cp), (2, (Pv ab)), (3, (Pv fb)), (4, (Pv mb)), (15, S.pv), (16, I6 S.ps.length), (17, I6 (↑i + 1)), (8, .bool true)], hE100, by omega, hgs, hP.set (hP.snd.set hpm (by omega) hme hv (by omega)) (sum_set_lt hv (by omega))⟩, by simp only; omega⟩
   ·
    replace hb93 := of_decide_eq_false hb93
    refine wpIn_skip <| inBlock_normal <| hK13 _ _ <| rgn 2 <| sd ww [.as (I6 (↑i + 1)), .p] [_] [(17, I6 (↑i + 1))] [] 2 0 hS (as6 (↑i + 1)) fun a hS => seg_end ?_
    exact ⟨(i + 1, vs1, gr), ⟨hS.kp [(0, Sl g S.ns.length cp), (2, (Pv ab)), (3, (Pv fb)), (4, (Pv mb)), (15, S.pv), (16, I6 S.ps.length), (17, I6 (↑i + 1)), (8, .bool gr)], hEl42, by omega, hB47, hP.skip (.of hpi hme hv (by omega))⟩, by simp only; omega⟩
 ·
  replace hb12 := of_decide_eq_false hb12
  have hEl5 : Ext [g] w wl5 := hE0.trans hXl5 (fun b hbM => by simp at hbM; rw [hbM]; exact .inl (by simp))
  have hie : i = S.ps.length := by omega
  refine xt2 <| hK3 _ _ <| sdq 4 [.p, .p, .p, .p] [] [(6, Sl g S.ns.length cp), (7, .bool gr)] [] hS .nil fun a hS => wpIn_ret ?_
  refine ret2 hS Tryd.results93 rfl rfl ?_
  exact ⟨vs1, gr, rfl, hg1, hie ▸ hP, hEl5⟩
theorem fixedSE_any {w0 w : World} {S : Sp} (hG : SpOk w0 S) (hb : Ext [] w0 w) (hI : Ix S) {cp g sb ab fb mb : Nat} {vs : List Nat} (hsb : Blk w sb 26 S.ca) (hab : Blk w ab 3 #[I6 1]) (hfb : Blk w fb 118 #[.func (.func 82) #[] #[]]) (hmb : Blk w mb 3 #[I6 256]) (hg : OwnR w 3 1 g cp S.ns.length (ivs vs)) (hga : ab ≠ g) (hgm : mb ≠ g) (hgn : w0.heap.size ≤ g) (hs : SmS S 1 257 257 vs) :
  Calls Tryd.prog 92 #[Sl g S.ns.length cp, .func (.func 93) #[] #[(Pv sb), (Pv ab), (Pv fb), (Pv mb)]] w fun e w' => ∃ vs', e = .returned (Sl g S.ns.length cp) ∧ OwnR w' 3 1 g cp S.ns.length (ivs vs') ∧ IsC S.g 1 257 257 (vf 257 vs') ∧ vs'.length = S.ns.length ∧ Ext [g] w w' := by
 refine cbd 17 [(0, Sl g S.ns.length cp), (1, .func (.func 93) #[] #[(Pv sb), (Pv ab), (Pv fb), (Pv mb)])] Tryd.func92 rfl fun a hS => ?_
 have hE0 : Ext [g] w w := Ext.refl _ _
 refine sdq 1 [.p] [] [(4, .slice none 0 0)] [] hS .nil fun a hS => wpIn_block ?_
 have hbl2 := (hb.t1 hE0 hgn)
 refine loop_ghost (fun (vs1 : (List Nat)) a' w' => St 17 [] [(0, Sl g S.ns.length cp), (1, .func (.func 93) #[] #[(Pv sb), (Pv ab), (Pv fb), (Pv mb)])] a' ∧ Ext [g] w w' ∧ OwnR w' 3 1 g cp S.ns.length (ivs vs1) ∧ SmS S 1 257 257 vs1) (fun (vs1 : (List Nat)) => vs1.sum) vs ⟨hS.keepTo [0, 1] (by kernel_rfl), Ext.refl _ _, hg, hs⟩ ?_
 rintro vs1 a wl2 ⟨hS, hXl2, hg1, hs1⟩
 have hB3 := hsb.ext hXl2 (by simpa using (OwnR.ne_type hg hsb (by decide)).symm)
 have hB4 := hab.ext hXl2 (by simpa using hga)
 have hB5 := hfb.ext hXl2 (by simpa using (OwnR.ne_type hg hfb (by decide)).symm)
 have hB6 := hmb.ext hXl2 (by simpa using hgm)
 refine wpIn_block <| sq fun K7 hK7 => rgn 8 <| sd ww [.p, .p] [] [(8, .func (.func 93) #[] #[(Pv sb), (Pv ab), (Pv fb), (Pv mb)]), (9, Sl g S.ns.length cp)] [] 2 6 hS .nil fun a hS => eff_call ww (r := 5) (f := 93) (vs := [Sl g S.ns.length cp]) (cap := #[(Pv sb), (Pv ab), (Pv fb), (Pv mb)]) (d := (some 10)) hS (by kernel_rfl) Tryd.call93 #[Sl g S.ns.length cp, (Pv sb), (Pv ab), (Pv fb), (Pv mb)] (by kernel_rfl) (sums1E_any hG (hbl2.t1 hXl2 hgn) hI hB3 hB4 hB5 hB6 hg1 hga hgm hgn hs1) ?_
 rintro _ wc8 ⟨vs8, gr8, rfl, hO8, hP8, hEc8⟩
 refine ⟨_, rfl, fun a hS => ?_⟩
 have hE13 := hXl2.trans hEc8 (fun b hbM => by simp at hbM; rw [hbM]; exact .inl (by simp))
 refine sd ww [.p, .p, .p, .p, .p] [] [(5, Sl g S.ns.length cp), (6, .bool gr8)] [] 8 0 hS .nil fun a hS => sge hK7 <| sq fun K14 hK14 => sdq 2 [.p, .p] [] [(14, .bool (!gr8))] [] hS .nil fun a hS => ?_
 refine cond_b hS rfl (fun hb16 => ?_) (fun hb16 => ?_)
 ·
  replace hb16 := hb16
  have hgr : gr8 = false := by simpa using hb16
  have hEl2 : Ext [g] w wc8 := hE0.trans hE13 (fun b hbM => by simp at hbM; rw [hbM]; exact .inl (by simp))
  refine sdq 2 [.p, .p] [] [(4, Sl g S.ns.length cp)] [] hS .nil fun a hS => wpIn_ret <| then_ret <| inBlock_ret <| then_ret <| inBlock_ret ?_
  refine ret1 hS Tryd.results92 rfl ?_
  exact ⟨_, rfl, hO8, SmP.isC hP8.snd (fun j hj => (hP8.cl hgr).2 j hj), hP8.snd.len, hEl2⟩
 ·
  replace hb16 := hb16
  have hgr : gr8 = true := by simpa using hb16
  refine wpIn_skip <| hK14 _ _ <| rgn 2 <| sd ww [.p, .p] [] [] [] 2 0 hS .nil fun a hS => seg_end <| inBlock_normal ?_
  exact ⟨vs8, ⟨hS.kp [(0, Sl g S.ns.length cp), (1, .func (.func 93) #[] #[(Pv sb), (Pv ab), (Pv fb), (Pv mb)])], hE13, hO8, hP8.snd⟩, hP8.lt hgr⟩
theorem sumsE_any {w0 w : World} {S : Sp} (hG : SpOk w0 S) (hb : Ext [] w0 w) (hI : Ix S) :
  Calls Tryd.prog 60 #[.agg S.ca, I6 1, I6 256, .func (.func 82) #[] #[]] w fun e w' => ∃ g vs, e = .returned (Sn S g) ∧ OwnR w' 3 1 g S.ns.length S.ns.length (ivs vs) ∧ IsC S.g 1 257 257 (vf 257 vs) ∧ vs.length = S.ns.length ∧ w.heap.size ≤ g ∧ Ext [] w w' := by
 have hlmax := hG.lmax
 have hnmax := hG.nmax
 have hpmax := hG.pmax
 refine cbd 29 [(0, .agg S.ca), (1, I6 1), (2, I6 256), (3, .func (.func 82) #[] #[])] Tryd.func60 rfl fun a hS => ?_
 have hE0 : Ext [] w w := Ext.refl _ _
 refine sq fun K1 hK1 => rgn 5 <| ebx 4 S.ca 26 (some 4) hS fun a w2 hw3 hS => ?_
 have hB4 := Blk.nw hw3
 have hs5 := hE0.size
 have hE6 := hE0.al hw3
 refine ebx 3 #[I6 1] 3 (some 5) hS fun a w7 hw8 hS => ?_
 have hB10 := Blk.at' hw8 (hB4.alloc _)
 have hB11 := Blk.nw hw8
 have hs12 := hE6.size
 have hE13 := hE6.al hw8
 refine ebx 2 #[I6 256] 3 (some 6) hS fun a w14 hw15 hS => ?_
 have hB18 := Blk.at' hw15 (hB10.alloc _)
 have hB19 := Blk.at' hw15 (hB11.alloc _)
 have hB20 := Blk.nw hw15
 have hs21 := hE13.size
 have hE22 := hE13.al hw15
 refine ebx 1 #[.func (.func 82) #[] #[]] 118 (some 7) hS fun a w23 hw24 hS => ?_
 have hB28 := Blk.at' hw24 (hB18.alloc _)
 have hB29 := Blk.at' hw24 (hB19.alloc _)
 have hB30 := Blk.at' hw24 (hB20.alloc _)
 have hB31 := Blk.nw hw24
 have hs32 := hE22.size
 have hE33 := hE22.al hw24
 refine sd ww [.p] [] [(8, .slice none 0 0)] [] 5 0 hS .nil fun a hS => sge hK1 <| sq fun K34 hK34 => rgn 5 <| sd ww [.p, .ld (S.nv), .run (I6 S.ns.length)] [_, Rv (Builtin.len_ #[23] 3 #[S.nv]) (I6 S.ns.length) w23] [(13, I6 S.ns.length)] [] 3 2 hS (hB28.k 1 (.c (rlr 9 hG.names) .nil)) fun a hS => ?_
 obtain ⟨wm35, hrm35, hOm35, hEm35, hsm35⟩ := make_full (P := Tryd.prog) (w := w23) (T := 51) (E := 3) (size := 1) (bytes := 8) (z := #[I6 0]) (Value.int .i64 0) (l := S.ns.length) (by kernel_rfl) (by kernel_rfl) (by rfl) (by omega) (by omega) (by omega)
 refine eff_run ww (r := 1) (s := vS (Instr.makeSlice 51 (I6 S.ns.length) (I6 S.ns.length))) (d := (some 14)) (v := Sn S w23.heap.size) hS (by kernel_rfl) hrm35 fun a hS => ?_
 have hn35_35 := Nat.ne_of_lt hB28.lt
 have hn35_36 := Nat.ne_of_lt hB29.lt
 have hn35_37 := Nat.ne_of_lt hB30.lt
 have hn35_38 := Nat.ne_of_lt hB31.lt
 have hB40 := hB28.ext hEm35 (by simp)
 have hB41 := hB29.ext hEm35 (by simp)
 have hB42 := hB30.ext hEm35 (by simp)
 have hB43 := hB31.ext hEm35 (by simp)
 have hE44 := hE33.trans0 hEm35
 refine sd ww [.p] [] [(9, Sn S w23.heap.size)] [] 5 0 hS .nil fun a hS => sge hK34 <| sq fun K45 hK45 => sdq 3 [.p, .p, .p] [] [(16, I6 S.ns.length), (17, I6 0)] [] hS .nil fun a hS => wpIn_block ?_
 have hg0 := hOm35
 rw [Nat.mul_one, show Value.int .i64 0 = I6 ((0 : Nat) : Int) from rfl, ivs_rep] at hg0
 have hbl47 := (hb.trans0 hE44)
 refine loop_ghost (fun (i : Nat) a' w' => St 29 [] [(4, (Pv w.heap.size)), (5, (Pv w2.heap.size)), (6, (Pv w7.heap.size)), (7, (Pv w14.heap.size)), (9, Sn S w23.heap.size), (16, I6 S.ns.length), (17, I6 i)] a' ∧ Ext [w23.heap.size] wm35 w' ∧ i ≤ S.ns.length ∧ OwnR w' 3 1 (w23.heap.size) S.ns.length S.ns.length (ivs (List.replicate i 257 ++ List.replicate (S.ns.length - i) 0))) (fun (i : Nat) => S.ns.length - i) 0 ⟨hS.keepTo [4, 5, 6, 7, 9, 16, 17] (by kernel_rfl), Ext.refl _ _, by omega, hg0⟩ ?_
 rintro i a wl47 ⟨hS, hXl47, hi, hg1⟩
 have hB48 := hB40.ext hXl47 (by simpa using hn35_35)
 have hB49 := hB41.ext hXl47 (by simpa using hn35_36)
 have hB50 := hB42.ext hXl47 (by simpa using hn35_37)
 have hB51 := hB43.ext hXl47 (by simpa using hn35_38)
 refine sdq 1 [.p] [] [(18, .bool (decide ((↑i : Int) < ↑S.ns.length)))] [] hS .nil fun a hS => sq fun K53 hK53 => ?_
 refine cond_b hS rfl (fun hb54 => ?_) (fun hb54 => ?_)
 ·
  replace hb54 := of_decide_eq_true hb54
  have hxl : (ivs (List.replicate i 257 ++ List.replicate (S.ns.length - i) 0)).length = S.ns.length := by rw [ivs_len, List.length_append, List.length_replicate, List.length_replicate]; omega
  refine wpIn_skip <| hK53 _ _ <| sq fun K55 hK55 => wpIn_block <| sdq 2 [.p, .p] [] [(10, I6 i)] [] hS .nil fun a hS => rgn 6 <| sd ww [.p, .p, .ld (I6 256), .p, .run ((Po w23.heap.size (0 + i * 1)))] [_, Rv (Instr.indexAt 51 (Sn S w23.heap.size) (I6 i)) ((Po w23.heap.size (0 + i * 1))) wl47] [(23, I6 257), (24, (Po w23.heap.size (0 + i * 1)))] [] 5 1 hS (hB50.k 0 (.c (ixs 3 1 i) .nil)) fun a hS => eff_store_own ww (r := 0) (b := w23.heap.size) (off := 0 + i * 1) (u := Value.int .i64 257) (xs := (ivs (List.replicate i 257 ++ List.replicate (S.ns.length - i) 0))) hS (by kernel_rfl) hg1 (by omega) fun a ws57 hOs57 hEs57 hsz57 hS => ?_
  have hE62 : Ext [w23.heap.size] wm35 ws57 := hXl47.trans hEs57 (fun b hb => by simp at hb; subst hb; exact .inl (by simp))
  refine seg_end <| inBlock_normal <| hK55 _ _ <| rgn 2 <| sd ww [.as (I6 (↑i + 1)), .p] [_] [(17, I6 (↑i + 1))] [] 2 0 hS (as6 (↑i + 1)) fun a hS => seg_end ?_
  have hgs := hOs57
  rw [show Value.int .i64 257 = I6 ((257 : Nat) : Int) from rfl, ivs_set, fill_set _ _ (by omega)] at hgs
  exact ⟨i + 1, ⟨hS.kp [(4, (Pv w.heap.size)), (5, (Pv w2.heap.size)), (6, (Pv w7.heap.size)), (7, (Pv w14.heap.size)), (9, Sn S w23.heap.size), (16, I6 S.ns.length), (17, I6 (↑i + 1))], hE62, by omega, hgs⟩, by omega⟩
 ·
  replace hb54 := of_decide_eq_false hb54
  have hEl47 : Ext [] w wl47 := hE44.trans hXl47 (fun b hbM => by simp at hbM; rw [hbM]; exact .inr hE33.size)
  have hg2 := hg1
  rw [show S.ns.length - i = 0 by omega, List.replicate_zero, List.append_nil, show i = S.ns.length by omega] at hg2
  refine xt2 <| hK45 _ _ <| sq fun K63 hK63 => rgn 4 <| sd ww [.p, .p] [] [(26, Sn S w23.heap.size), (27, .func (.func 93) #[] #[(Pv w.heap.size), (Pv w2.heap.size), (Pv w14.heap.size), (Pv w7.heap.size)])] [] 2 2 hS .nil fun a hS => ecl 1 (some 28) hS Tryd.call92 #[Sn S w23.heap.size, .func (.func 93) #[] #[(Pv w.heap.size), (Pv w2.heap.size), (Pv w14.heap.size), (Pv w7.heap.size)]] (fixedSE_any hG (hb.trans0 hEl47) hI hB48 hB49 hB51 hB50 hg2 hn35_36 hn35_37 (Nat.le_trans hb.size hE33.size) (.start S 1 257 257)) ?_
  rintro _ wc64 ⟨vs64, rfl, hO64, hC64, hL64, hEc64⟩
  refine ⟨_, rfl, fun a hS => ?_⟩
  have hE69 := hEl47.trans hEc64 (fun b hbM => by simp at hbM; rw [hbM]; exact .inr hE33.size)
  refine sd ww [.p] [] [(8, Sn S w23.heap.size)] [] 4 0 hS .nil fun a hS => sge hK63 <| wpIn_ret ?_
  refine ret1 hS Tryd.results60 rfl ?_
  exact ⟨_, _, rfl, hO64, hC64, hL64, hE33.size, hE69⟩
theorem termY_any {w : World} (x y : Int) :
  Calls Tryd.prog 61 #[.agg #[I6 x, I6 y]] w fun e w' => e = .returned (I6 1) ∧ Ext [] w w' := by
 refine cbd 3 [(0, .agg #[I6 x, I6 y])] Tryd.func61 rfl fun a hS => ?_
 have hE0 : Ext [] w w := Ext.refl _ _
 refine sq fun K1 hK1 => rgn 2 <| ebx 1 #[I6 x, I6 y] 61 (some 1) hS fun a w2 hw3 hS => ?_
 have hs5 := hE0.size
 have hE6 := hE0.al hw3
 refine sd ww [.p] [] [(2, I6 0)] [] 2 0 hS .nil fun a hS => sge hK1 <| sdq 1 [.p] [] [(2, I6 1)] [] hS .nil fun a hS => wpIn_ret ?_
 refine ret1 hS Tryd.results61 rfl ?_
 exact ⟨rfl, hE6⟩
theorem sums1Y_any {w0 w : World} {S : Sp} (hG : SpOk w0 S) (hb : Ext [] w0 w) (hI : Ix S) {cp g sb ab fb mb : Nat} {vs : List Nat} (hsb : Blk w sb 26 S.ca) (hab : Blk w ab 3 #[I6 0]) (hfb : Blk w fb 118 #[.func (.func 61) #[] #[]]) (hmb : Blk w mb 3 #[I6 4096]) (hg : OwnR w 3 1 g cp S.ns.length (ivs vs)) (hga : ab ≠ g) (hgm : mb ≠ g) (hgn : w0.heap.size ≤ g) (hs : SmS S 0 1 4097 vs) :
  Calls Tryd.prog 93 #[Sl g S.ns.length cp, (Pv sb), (Pv ab), (Pv fb), (Pv mb)] w fun e w' => ∃ vs' gr, e = .returned (.tuple #[Sl g S.ns.length cp, .bool gr]) ∧ OwnR w' 3 1 g cp S.ns.length (ivs vs') ∧ SmP S 0 1 4097 S.ps.length vs vs' gr ∧ Ext [g] w w' := by
 have hlmax := hG.lmax
 have hnmax := hG.nmax
 have hpmax := hG.pmax
 refine cbd 64 [(0, Sl g S.ns.length cp), (1, (Pv sb)), (2, (Pv ab)), (3, (Pv fb)), (4, (Pv mb))] Tryd.func93 rfl fun a hS => ?_
 have hE0 : Ext [g] w w := Ext.refl _ _
 refine sdq 2 [.p, .p] [] [(6, .slice none 0 0), (7, .bool false)] [] hS .nil fun a hS => sdq 1 [.p] [] [(8, .bool false)] [] hS .nil fun a hS => sq fun K3 hK3 => sdq 4 [.p, .ld (S.pv), .run (I6 S.ps.length), .p] [_, Rv (Builtin.len_ #[24] 3 #[S.pv]) (I6 S.ps.length) w] [(15, S.pv), (16, I6 S.ps.length), (17, I6 0)] [] hS (hsb.k 3 (.c (rlr 73 hG.prods) .nil)) fun a hS => wpIn_block ?_
 have hbl5 := (hb.t1 hE0 hgn)
 refine loop_ghost (fun ((i, vs1, gr) : Nat × (List Nat) × Bool) a' w' => St 64 [] [(0, Sl g S.ns.length cp), (2, (Pv ab)), (3, (Pv fb)), (4, (Pv mb)), (15, S.pv), (16, I6 S.ps.length), (17, I6 i), (8, .bool gr)] a' ∧ Ext [g] w w' ∧ i ≤ S.ps.length ∧ OwnR w' 3 1 g cp S.ns.length (ivs vs1) ∧ SmP S 0 1 4097 i vs vs1 gr) (fun ((i, vs1, gr) : Nat × (List Nat) × Bool) => S.ps.length - i) (0, vs, false) ⟨hS.keepTo [0, 2, 3, 4, 15, 16, 17, 8] (by kernel_rfl), Ext.refl _ _, by omega, hg, .start hs⟩ ?_
 rintro ⟨i, vs1, gr⟩ a wl5 ⟨hS, hXl5, hi, hg1, hP⟩
 have hB7 := hab.ext hXl5 (by simpa using hga)
 have hB8 := hfb.ext hXl5 (by simpa using (OwnR.ne_type hg hfb (by decide)).symm)
 have hB9 := hmb.ext hXl5 (by simpa using hgm)
 refine sdq 1 [.p] [] [(18, .bool (decide ((↑i : Int) < ↑S.ps.length)))] [] hS .nil fun a hS => sq fun K11 hK11 => ?_
 refine cond_b hS rfl (fun hb12 => ?_) (fun hb12 => ?_)
 ·
  replace hb12 := of_decide_eq_true hb12
  obtain ⟨p, hpi⟩ : ∃ p, S.ps[i]? = some p := gE
  have hpm := List.mem_of_getElem? hpi
  have hrm := hG.rmax p hpm
  have hpl := hI.pl hpm
  have hvl := hP.snd.len
  refine wpIn_skip <| hK11 _ _ <| sq fun K13 hK13 => wpIn_block <| sq fun K14 hK14 => rgn 4 <| sd ww [.run ((Po (bof S.pv) (oof S.pv + i * 2))), .lds [I6 p.l, p.rv]] [Rv (Instr.indexAt 24 (S.pv) (I6 i)) ((Po (bof S.pv) (oof S.pv + i * 2))) wl5, wl5.cell? ⟨bof S.pv, oof S.pv + i * 2, none⟩ = some (I6 p.l), wl5.cell? ⟨bof S.pv, oof S.pv + i * 2 + 1, none⟩ = some (p.rv)] [(20, .agg #[I6 p.l, p.rv])] [] 2 2 hS (.c (ixr 73 i hG.prods) (.c ((hG.prods.ext0 (hbl5.t1 hXl5 hgn)).cellAt (i * 2 + 0) (by omega) (pcells_at S.ps i 0 p hpi (by omega))) (.c ((hG.prods.ext0 (hbl5.t1 hXl5 hgn)).cellAt (i * 2 + 1) (by omega) (pcells_at S.ps i 1 p hpi (by omega))) .nil))) fun a hS => ebx 1 #[I6 0, .slice none 0 0] 73 (some 10) hS fun a w15 hw16 hS => ?_
  have hn18 := Nat.ne_of_lt hB7.lt
  have hn19 := Nat.ne_of_lt hB8.lt
  have hn20 := Nat.ne_of_lt hB9.lt
  have hn21 := Nat.ne_of_lt hg1.lt
  have hB23 := Blk.at' hw16 (hB7.alloc _)
  have hB24 := Blk.at' hw16 (hB8.alloc _)
  have hB25 := Blk.at' hw16 (hB9.alloc _)
  have hB26 := OwnR.at' hw16 (hg1.alloc _)
  have hB27 := Blk.nw hw16
  have hs28 := hXl5.size
  have hE29 := hXl5.al hw16
  refine est 0 wl5.heap.size 0 [I6 p.l, p.rv] hS hB27 fun a w30 hw31 hS => ?_
  have hB33 := Blk.at' hw31 (hB23.updNe (Ne.symm hn18) _ _)
  have hB34 := Blk.at' hw31 (hB24.updNe (Ne.symm hn19) _ _)
  have hB35 := Blk.at' hw31 (hB25.updNe (Ne.symm hn20) _ _)
  have hB36 := OwnR.at' hw31 (hB26.updNe (Ne.symm hn21) _ _)
  have hB37 : Blk w30 wl5.heap.size 73 (#[I6 p.l, p.rv]) := hB27.up hw31
  have hE38 := hE29.ui hw31 hs28
  refine sge hK14 <| sdq 2 [.ld (I6 0), .p] [_] [(11, I6 0)] [] hS (hB33.k 0 .nil) fun a hS => sq fun K40 hK40 => sdq 4 [.p, .ld (p.rv), .run (I6 p.r.length), .p] [_, Rv (Builtin.len_ #[71] 3 #[p.rv]) (I6 p.r.length) w30] [(23, p.rv), (24, I6 p.r.length), (25, I6 0)] [] hS (hB37.k 1 (.c (rlr 61 (hG.right p hpm)) .nil)) fun a hS => wpIn_block ?_
  have hbl42 : Ext [] w0 w30 := (hbl5.t1 hE38 hgn)
  refine loop_ghost (fun ((k, m) : Nat × Nat) a' w' => St 64 [] [(0, Sl g S.ns.length cp), (2, (Pv ab)), (3, (Pv fb)), (4, (Pv mb)), (15, S.pv), (16, I6 S.ps.length), (17, I6 i), (8, .bool gr), (10, (Pv wl5.heap.size)), (23, p.rv), (24, I6 p.r.length), (25, I6 k), (11, I6 m)] a' ∧ Ext [] w30 w' ∧ k ≤ p.r.length ∧ Cap 4097 m (sumV 1 (vf 4097 vs1) ((row p.r).drop k)) (0 + sumV 1 (vf 4097 vs1) (row p.r))) (fun ((k, m) : Nat × Nat) => p.r.length - k) (0, 0) ⟨hS.keepTo [0, 2, 3, 4, 15, 16, 17, 8, 10, 23, 24, 25, 11] (by kernel_rfl), Ext.refl _ _, by omega, Cap.start (by omega)⟩ ?_
  rintro ⟨k, m⟩ a wl42 ⟨hS, hXl42, hk, hm⟩
  have hB45 := hB34.ext hXl42 (by simp)
  have hB46 := hB35.ext hXl42 (by simp)
  have hB47 := hB36.ext hXl42 (by simp)
  have hB48 := hB37.ext hXl42 (by simp)
  refine sdq 1 [.p] [] [(26, .bool (decide ((↑k : Int) < ↑p.r.length)))] [] hS .nil fun a hS => sq fun K50 hK50 => ?_
  refine cond_b hS rfl (fun hb51 => ?_) (fun hb51 => ?_)
  ·
   replace hb51 := of_decide_eq_true hb51
   obtain ⟨x, hxk⟩ : ∃ x, p.r[k]? = some x := gE
   have hxm := List.mem_of_getElem? hxk
   have hmt := hm.1
   refine wpIn_skip <| hK50 _ _ <| sq fun K52 hK52 => wpIn_block <| sq fun K53 hK53 => rgn 4 <| sd ww [.run ((Po (bof p.rv) (oof p.rv + k * 2))), .lds [I6 x.1, I6 x.2]] [Rv (Instr.indexAt 71 (p.rv) (I6 k)) ((Po (bof p.rv) (oof p.rv + k * 2))) wl42, wl42.cell? ⟨bof p.rv, oof p.rv + k * 2, none⟩ = some (I6 x.1), wl42.cell? ⟨bof p.rv, oof p.rv + k * 2 + 1, none⟩ = some (I6 x.2)] [(28, .agg #[I6 x.1, I6 x.2])] [] 2 2 hS (.c (ixr 61 k (hG.right p hpm)) (.c (((hG.right p hpm).ext0 (hbl42.trans0 hXl42)).cellAt (k * 2 + 0) (by omega) (ycells_at p.r k 0 x hxk (by omega))) (.c (((hG.right p hpm).ext0 (hbl42.trans0 hXl42)).cellAt (k * 2 + 1) (by omega) (ycells_at p.r k 1 x hxk (by omega))) .nil))) fun a hS => ebx 1 #[I6 0, I6 0] 61 (some 13) hS fun a w54 hw55 hS => ?_
   have hn58 := Nat.ne_of_lt hB45.lt
   have hn59 := Nat.ne_of_lt hB46.lt
   have hn60 := Nat.ne_of_lt hB47.lt
   have hB64 := Blk.at' hw55 (hB45.alloc _)
   have hB65 := Blk.at' hw55 (hB46.alloc _)
   have hB66 := OwnR.at' hw55 (hB47.alloc _)
   have hB68 := Blk.nw hw55
   have hs69 := hXl42.size
   have hE70 := hXl42.al hw55
   refine est 0 wl42.heap.size 0 [I6 x.1, I6 x.2] hS hB68 fun a w71 hw72 hS => ?_
   have hB75 := Blk.at' hw72 (hB64.updNe (Ne.symm hn58) _ _)
   have hB76 := Blk.at' hw72 (hB65.updNe (Ne.symm hn59) _ _)
   have hB77 := OwnR.at' hw72 (hB66.updNe (Ne.symm hn60) _ _)
   have hB79 : Blk w71 wl42.heap.size 61 (#[I6 x.1, I6 x.2]) := hB68.up hw72
   have hE80 := hE70.ui hw72 hs69
   refine sge hK53 <| sq fun K81 hK81 => sq fun K82 hK82 => ?_
   rcases (show (x.1 = 3) ∨ (x.1 ≠ 3) from by omega) with h1 | h1
   ·
    have hxn := hI.name hpm hxm h1
    obtain ⟨v, hv⟩ : ∃ v, vs1[x.2.toNat]? = some v := gE
    have hsv := sumV_m (tc := 1) (top := 4097) hxk h1 hv
    have hvt := hP.snd.le x.2.toNat
    rw [vf_at hv] at hvt
    refine rgn 3 <| sd ww [.p, .ld (I6 x.1), .as (.bool true)] [_, Value.bool (((x.1 : Int) == 3)) = .bool true] [(31, .bool true)] [] 3 0 hS (hB79.k 0 (.c (as_eq_t (by omega)) .nil)) fun a hS => sge hK82 ?_
    refine cond_t hS rfl ?_
    refine rgn 8 <| sd ww [.p, .p, .p, .ld (I6 x.2), .run ((Po g (0 + x.2.toNat * 1))), .ld (I6 v), .as (I6 (↑m + ↑v)), .p] [_, Rv (Instr.indexAt 51 (Sl g S.ns.length cp) (I6 x.2)) ((Po g (0 + x.2.toNat * 1))) w71, w71.cell? ⟨g, 0 + x.2.toNat * 1, none⟩ = some (I6 v), Value.int .i64 (IntKind.i64.wrap (↑m + ↑v)) = I6 (↑m + ↑v)] [(11, I6 (↑m + ↑v))] [] 8 0 hS (hB79.k 1 (.c (ixz 3 1 x.2) (.c ((hB77).cellAt _ (ivs_at hv)) (.c (as_i64 (by omega)) .nil)))) fun a hS => sge hK81 ?_
    obtain ⟨m2, hm2, hmv⟩ := min_case m v 4097 (v' := ↑v) (t := 4097) rfl rfl
    refine rgn 5 <| sd ww [.p, .ld (I6 4096), .p, .as (I6 m2), .p] [_, Value.int .i64 (if (4097 : Int) < ↑m + ↑v then 4097 else ↑m + ↑v) = I6 m2] [(11, I6 m2)] [] 5 0 hS (hB76.k 0 (.c (hmv) .nil)) fun a hS => seg_end <| inBlock_normal <| hK52 _ _ <| rgn 2 <| sd ww [.as (I6 (↑k + 1)), .p] [_] [(25, I6 (↑k + 1))] [] 2 0 hS (as6 (↑k + 1)) fun a hS => seg_end ?_
    exact ⟨(k + 1, m2), ⟨hS.kp [(0, Sl g S.ns.length cp), (2, (Pv ab)), (3, (Pv fb)), (4, (Pv mb)), (15, S.pv), (16, I6 S.ps.length), (17, I6 i), (8, .bool gr), (10, (Pv wl5.heap.size)), (23, p.rv), (24, I6 p.r.length), (25, I6 (↑k + 1)), (11, I6 m2)], hE80, by omega, hm.step hsv hm2⟩, by simp only; omega⟩
   ·
    have hsv := sumV_o (tc := 1) (top := 4097) (vs := vs1) hxk h1
    refine rgn 3 <| sd ww [.p, .ld (I6 x.1), .as (.bool false)] [_, Value.bool (((x.1 : Int) == 3)) = .bool false] [(31, .bool false)] [] 3 0 hS (hB79.k 0 (.c (as_eq_f (by omega)) .nil)) fun a hS => sge hK82 ?_
    refine cond_f hS rfl ?_
    refine rgn 6 <| sd ww [.p, .ld (.func (.func 61) #[] #[]), .lds [I6 x.1, I6 x.2]] [_, _, _] [(39, I6 m), (40, .func (.func 61) #[] #[]), (41, .agg #[I6 x.1, I6 x.2])] [] 3 3 hS (hB75.k 0 (hB79.k 0 (hB79.k 1 .nil))) fun a hS => ecl 2 (some 42) hS Tryd.call61 #[.agg #[I6 x.1, I6 x.2]] (termY_any _ _) ?_
    rintro _ wc83 ⟨rfl, hEc83⟩
    refine ⟨_, rfl, fun a hS => ?_⟩
    have hB87 := hB76.ext hEc83 (by simp)
    have hE91 := hE80.trans0 hEc83
    refine sd ww [.as (I6 (↑m + 1)), .p] [_] [(11, I6 (↑m + 1))] [] 6 0 hS (as6 (↑m + 1)) fun a hS => sge hK81 ?_
    obtain ⟨m2, hm2, hmv⟩ := min_case m 1 4097 (v' := 1) (t := 4097) rfl rfl
    refine rgn 5 <| sd ww [.p, .ld (I6 4096), .p, .as (I6 m2), .p] [_, Value.int .i64 (if (4097 : Int) < ↑m + 1 then 4097 else ↑m + 1) = I6 m2] [(11, I6 m2)] [] 5 0 hS (hB87.k 0 (.c (hmv) .nil)) fun a hS => seg_end <| inBlock_normal <| hK52 _ _ <| rgn 2 <| sg ww [.as (I6 (↑k + 1)), .p] [_] [(0, Sl g S.ns.length cp), (2, (Pv ab)), (3, (Pv fb)), (4, (Pv mb)), (15, S.pv), (16, I6 S.ps.length), (17, I6 i), (8, .bool gr), (10, (Pv wl5.heap.size)), (23, p.rv), (24, I6 p.r.length), (25, I6 (↑k + 1)), (11, I6 m2), (26, .bool (decide ((↑k : Int) < ↑p.r.length))), (13, (Pv wl42.heap.size)), (31, .bool false)] 2 0 hS (as6 (↑k + 1)) fun a hS => seg_end ?_
    exact ⟨(k + 1, m2), ⟨hS.kp [(0, Sl g S.ns.length cp), (2, (Pv ab)), (3, (Pv fb)), (4, (Pv mb)), (15, S.pv), (16, I6 S.ps.length), (17, I6 i), (8, .bool gr), (10, (Pv wl5.heap.size)), (23, p.rv), (24, I6 p.r.length), (25, I6 (↑k + 1)), (11, I6 m2)], hE91, by omega, hm.step hsv hm2⟩, by simp only; omega⟩
  ·
   replace hb51 := of_decide_eq_false hb51
   have hEl42 : Ext [g] w wl42 := hE38.trans0 hXl42
   rw [List.drop_eq_nil_of_le (by rw [row_len]; omega), sumV] at hm
   have hme := hm.done
   obtain ⟨v, hv⟩ : ∃ v, vs1[p.l.toNat]? = some v := gE
   have hvt := hP.snd.le p.l.toNat
   rw [vf_at hv] at hvt
   refine xt2 <| hK40 _ _ <| sdq 7 [.p, .p, .p, .ld (I6 p.l), .run ((Po g (0 + p.l.toNat * 1))), .ld (I6 v), .p] [_, Rv (Instr.indexAt 51 (Sl g S.ns.length cp) (I6 p.l)) ((Po g (0 + p.l.toNat * 1))) wl42, wl42.cell? ⟨g, 0 + p.l.toNat * 1, none⟩ = some (I6 v)] [(55, .bool (decide ((↑m : Int) < ↑v)))] [] hS (hB48.k 0 (.c (ixz 3 1 p.l) (.c ((hB47).cellAt _ (ivs_at hv)) .nil))) fun a hS => ?_
   refine cond_b hS rfl (fun hb93 => ?_) (fun hb93 => ?_)
   ·
    replace hb93 := of_decide_eq_true hb93
    refine rgn 7 <| sd ww [.p, .p, .ld (I6 p.l), .p, .run ((Po g (0 + p.l.toNat * 1)))] [_, Rv (Instr.indexAt 51 (Sl g S.ns.length cp) (I6 p.l)) ((Po g (0 + p.l.toNat * 1))) wl42] [(59, I6 m), (60, (Po g (0 + p.l.toNat * 1)))] [] 5 2 hS (hB48.k 0 (.c (ixz 3 1 p.l) .nil)) fun a hS => eff_store_own ww (r := 1) (b := g) (off := 0 + p.l.toNat * 1) (u := Value.int .i64 ↑m) (xs := (ivs vs1)) hS (by kernel_rfl) hB47 (by omega) fun a ws94 hOs94 hEs94 hsz94 hS => ?_
    have hE100 : Ext [g] w ws94 := hEl42.trans hEs94 (fun b hb => by simp at hb; subst hb; exact .inl (by simp))
    refine sd ww [.p] [] [(8, .bool true)] [] 7 0 hS .nil fun a hS => seg_end <| inBlock_normal <| hK13 _ _ <| rgn 2 <| sd ww [.as (I6 (↑i + 1)), .p] [_] [(17, I6 (↑i + 1))] [] 2 0 hS (as6 (↑i + 1)) fun a hS => seg_end ?_
    have hgs := hOs94
    rw [ivs_set] at hgs
    exact ⟨(i + 1, (vs1.set p.l.toNat m), true), ⟨hS.kp [(0, Sl g S.ns.length cp), (2, (Pv ab)), (3, (Pv fb)), (4, (Pv mb)), (15, S.pv), (16, I6 S.ps.length), (17, I6 (↑i + 1)), (8, .bool true)], hE100, by omega, hgs, hP.set (hP.snd.set hpm (by omega) hme hv (by omega)) (sum_set_lt hv (by omega))⟩, by simp only; omega⟩
   ·
    replace hb93 := of_decide_eq_false hb93
    refine wpIn_skip <| inBlock_normal <| hK13 _ _ <| rgn 2 <| sd ww [.as (I6 (↑i + 1)), .p] [_] [(17, I6 (↑i + 1))] [] 2 0 hS (as6 (↑i + 1)) fun a hS => seg_end ?_
    exact ⟨(i + 1, vs1, gr), ⟨hS.kp [(0, Sl g S.ns.length cp), (2, (Pv ab)), (3, (Pv fb)), (4, (Pv mb)), (15, S.pv), (16, I6 S.ps.length), (17, I6 (↑i + 1)), (8, .bool gr)], hEl42, by omega, hB47, hP.skip (.of hpi hme hv (by omega))⟩, by simp only; omega⟩
 ·
  replace hb12 := of_decide_eq_false hb12
  have hEl5 : Ext [g] w wl5 := hE0.trans hXl5 (fun b hbM => by simp at hbM; rw [hbM]; exact .inl (by simp))
  have hie : i = S.ps.length := by omega
  refine xt2 <| hK3 _ _ <| sdq 4 [.p, .p, .p, .p] [] [(6, Sl g S.ns.length cp), (7, .bool gr)] [] hS .nil fun a hS => wpIn_ret ?_
  refine ret2 hS Tryd.results93 rfl rfl ?_
  exact ⟨vs1, gr, rfl, hg1, hie ▸ hP, hEl5⟩
theorem fixedSY_any {w0 w : World} {S : Sp} (hG : SpOk w0 S) (hb : Ext [] w0 w) (hI : Ix S) {cp g sb ab fb mb : Nat} {vs : List Nat} (hsb : Blk w sb 26 S.ca) (hab : Blk w ab 3 #[I6 0]) (hfb : Blk w fb 118 #[.func (.func 61) #[] #[]]) (hmb : Blk w mb 3 #[I6 4096]) (hg : OwnR w 3 1 g cp S.ns.length (ivs vs)) (hga : ab ≠ g) (hgm : mb ≠ g) (hgn : w0.heap.size ≤ g) (hs : SmS S 0 1 4097 vs) :
  Calls Tryd.prog 92 #[Sl g S.ns.length cp, .func (.func 93) #[] #[(Pv sb), (Pv ab), (Pv fb), (Pv mb)]] w fun e w' => ∃ vs', e = .returned (Sl g S.ns.length cp) ∧ OwnR w' 3 1 g cp S.ns.length (ivs vs') ∧ IsC S.g 0 1 4097 (vf 4097 vs') ∧ vs'.length = S.ns.length ∧ Ext [g] w w' := by
 refine cbd 17 [(0, Sl g S.ns.length cp), (1, .func (.func 93) #[] #[(Pv sb), (Pv ab), (Pv fb), (Pv mb)])] Tryd.func92 rfl fun a hS => ?_
 have hE0 : Ext [g] w w := Ext.refl _ _
 refine sdq 1 [.p] [] [(4, .slice none 0 0)] [] hS .nil fun a hS => wpIn_block ?_
 have hbl2 := (hb.t1 hE0 hgn)
 refine loop_ghost (fun (vs1 : (List Nat)) a' w' => St 17 [] [(0, Sl g S.ns.length cp), (1, .func (.func 93) #[] #[(Pv sb), (Pv ab), (Pv fb), (Pv mb)])] a' ∧ Ext [g] w w' ∧ OwnR w' 3 1 g cp S.ns.length (ivs vs1) ∧ SmS S 0 1 4097 vs1) (fun (vs1 : (List Nat)) => vs1.sum) vs ⟨hS.keepTo [0, 1] (by kernel_rfl), Ext.refl _ _, hg, hs⟩ ?_
 rintro vs1 a wl2 ⟨hS, hXl2, hg1, hs1⟩
 have hB3 := hsb.ext hXl2 (by simpa using (OwnR.ne_type hg hsb (by decide)).symm)
 have hB4 := hab.ext hXl2 (by simpa using hga)
 have hB5 := hfb.ext hXl2 (by simpa using (OwnR.ne_type hg hfb (by decide)).symm)
 have hB6 := hmb.ext hXl2 (by simpa using hgm)
 refine wpIn_block <| sq fun K7 hK7 => rgn 8 <| sd ww [.p, .p] [] [(8, .func (.func 93) #[] #[(Pv sb), (Pv ab), (Pv fb), (Pv mb)]), (9, Sl g S.ns.length cp)] [] 2 6 hS .nil fun a hS => eff_call ww (r := 5) (f := 93) (vs := [Sl g S.ns.length cp]) (cap := #[(Pv sb), (Pv ab), (Pv fb), (Pv mb)]) (d := (some 10)) hS (by kernel_rfl) Tryd.call93 #[Sl g S.ns.length cp, (Pv sb), (Pv ab), (Pv fb), (Pv mb)] (by kernel_rfl) (sums1Y_any hG (hbl2.t1 hXl2 hgn) hI hB3 hB4 hB5 hB6 hg1 hga hgm hgn hs1) ?_
 rintro _ wc8 ⟨vs8, gr8, rfl, hO8, hP8, hEc8⟩
 refine ⟨_, rfl, fun a hS => ?_⟩
 have hE13 := hXl2.trans hEc8 (fun b hbM => by simp at hbM; rw [hbM]; exact .inl (by simp))
 refine sd ww [.p, .p, .p, .p, .p] [] [(5, Sl g S.ns.length cp), (6, .bool gr8)] [] 8 0 hS .nil fun a hS => sge hK7 <| sq fun K14 hK14 => sdq 2 [.p, .p] [] [(14, .bool (!gr8))] [] hS .nil fun a hS => ?_
 refine cond_b hS rfl (fun hb16 => ?_) (fun hb16 => ?_)
 ·
  replace hb16 := hb16
  have hgr : gr8 = false := by simpa using hb16
  have hEl2 : Ext [g] w wc8 := hE0.trans hE13 (fun b hbM => by simp at hbM; rw [hbM]; exact .inl (by simp))
  refine sdq 2 [.p, .p] [] [(4, Sl g S.ns.length cp)] [] hS .nil fun a hS => wpIn_ret <| then_ret <| inBlock_ret <| then_ret <| inBlock_ret ?_
  refine ret1 hS Tryd.results92 rfl ?_
  exact ⟨_, rfl, hO8, SmP.isC hP8.snd (fun j hj => (hP8.cl hgr).2 j hj), hP8.snd.len, hEl2⟩
 ·
  replace hb16 := hb16
  have hgr : gr8 = true := by simpa using hb16
  refine wpIn_skip <| hK14 _ _ <| rgn 2 <| sd ww [.p, .p] [] [] [] 2 0 hS .nil fun a hS => seg_end <| inBlock_normal ?_
  exact ⟨vs8, ⟨hS.kp [(0, Sl g S.ns.length cp), (1, .func (.func 93) #[] #[(Pv sb), (Pv ab), (Pv fb), (Pv mb)])], hE13, hO8, hP8.snd⟩, hP8.lt hgr⟩
theorem sumsY_any {w0 w : World} {S : Sp} (hG : SpOk w0 S) (hb : Ext [] w0 w) (hI : Ix S) :
  Calls Tryd.prog 60 #[.agg S.ca, I6 0, I6 4096, .func (.func 61) #[] #[]] w fun e w' => ∃ g vs, e = .returned (Sn S g) ∧ OwnR w' 3 1 g S.ns.length S.ns.length (ivs vs) ∧ IsC S.g 0 1 4097 (vf 4097 vs) ∧ vs.length = S.ns.length ∧ w.heap.size ≤ g ∧ Ext [] w w' := by
 have hlmax := hG.lmax
 have hnmax := hG.nmax
 have hpmax := hG.pmax
 refine cbd 29 [(0, .agg S.ca), (1, I6 0), (2, I6 4096), (3, .func (.func 61) #[] #[])] Tryd.func60 rfl fun a hS => ?_
 have hE0 : Ext [] w w := Ext.refl _ _
 refine sq fun K1 hK1 => rgn 5 <| ebx 4 S.ca 26 (some 4) hS fun a w2 hw3 hS => ?_
 have hB4 := Blk.nw hw3
 have hs5 := hE0.size
 have hE6 := hE0.al hw3
 refine ebx 3 #[I6 0] 3 (some 5) hS fun a w7 hw8 hS => ?_
 have hB10 := Blk.at' hw8 (hB4.alloc _)
 have hB11 := Blk.nw hw8
 have hs12 := hE6.size
 have hE13 := hE6.al hw8
 refine ebx 2 #[I6 4096] 3 (some 6) hS fun a w14 hw15 hS => ?_
 have hB18 := Blk.at' hw15 (hB10.alloc _)
 have hB19 := Blk.at' hw15 (hB11.alloc _)
 have hB20 := Blk.nw hw15
 have hs21 := hE13.size
 have hE22 := hE13.al hw15
 refine ebx 1 #[.func (.func 61) #[] #[]] 118 (some 7) hS fun a w23 hw24 hS => ?_
 have hB28 := Blk.at' hw24 (hB18.alloc _)
 have hB29 := Blk.at' hw24 (hB19.alloc _)
 have hB30 := Blk.at' hw24 (hB20.alloc _)
 have hB31 := Blk.nw hw24
 have hs32 := hE22.size
 have hE33 := hE22.al hw24
 refine sd ww [.p] [] [(8, .slice none 0 0)] [] 5 0 hS .nil fun a hS => sge hK1 <| sq fun K34 hK34 => rgn 5 <| sd ww [.p, .ld (S.nv), .run (I6 S.ns.length)] [_, Rv (Builtin.len_ #[23] 3 #[S.nv]) (I6 S.ns.length) w23] [(13, I6 S.ns.length)] [] 3 2 hS (hB28.k 1 (.c (rlr 9 hG.names) .nil)) fun a hS => ?_
 obtain ⟨wm35, hrm35, hOm35, hEm35, hsm35⟩ := make_full (P := Tryd.prog) (w := w23) (T := 51) (E := 3) (size := 1) (bytes := 8) (z := #[I6 0]) (Value.int .i64 0) (l := S.ns.length) (by kernel_rfl) (by kernel_rfl) (by rfl) (by omega) (by omega) (by omega)
 refine eff_run ww (r := 1) (s := vS (Instr.makeSlice 51 (I6 S.ns.length) (I6 S.ns.length))) (d := (some 14)) (v := Sn S w23.heap.size) hS (by kernel_rfl) hrm35 fun a hS => ?_
 have hn35_35 := Nat.ne_of_lt hB28.lt
 have hn35_36 := Nat.ne_of_lt hB29.lt
 have hn35_37 := Nat.ne_of_lt hB30.lt
 have hn35_38 := Nat.ne_of_lt hB31.lt
 have hB40 := hB28.ext hEm35 (by simp)
 have hB41 := hB29.ext hEm35 (by simp)
 have hB42 := hB30.ext hEm35 (by simp)
 have hB43 := hB31.ext hEm35 (by simp)
 have hE44 := hE33.trans0 hEm35
 refine sd ww [.p] [] [(9, Sn S w23.heap.size)] [] 5 0 hS .nil fun a hS => sge hK34 <| sq fun K45 hK45 => sdq 3 [.p, .p, .p] [] [(16, I6 S.ns.length), (17, I6 0)] [] hS .nil fun a hS => wpIn_block ?_
 have hg0 := hOm35
 rw [Nat.mul_one, show Value.int .i64 0 = I6 ((0 : Nat) : Int) from rfl, ivs_rep] at hg0
 have hbl47 := (hb.trans0 hE44)
 refine loop_ghost (fun (i : Nat) a' w' => St 29 [] [(4, (Pv w.heap.size)), (5, (Pv w2.heap.size)), (6, (Pv w7.heap.size)), (7, (Pv w14.heap.size)), (9, Sn S w23.heap.size), (16, I6 S.ns.length), (17, I6 i)] a' ∧ Ext [w23.heap.size] wm35 w' ∧ i ≤ S.ns.length ∧ OwnR w' 3 1 (w23.heap.size) S.ns.length S.ns.length (ivs (List.replicate i 4097 ++ List.replicate (S.ns.length - i) 0))) (fun (i : Nat) => S.ns.length - i) 0 ⟨hS.keepTo [4, 5, 6, 7, 9, 16, 17] (by kernel_rfl), Ext.refl _ _, by omega, hg0⟩ ?_
 rintro i a wl47 ⟨hS, hXl47, hi, hg1⟩
 have hB48 := hB40.ext hXl47 (by simpa using hn35_35)
 have hB49 := hB41.ext hXl47 (by simpa using hn35_36)
 have hB50 := hB42.ext hXl47 (by simpa using hn35_37)
 have hB51 := hB43.ext hXl47 (by simpa using hn35_38)
 refine sdq 1 [.p] [] [(18, .bool (decide ((↑i : Int) < ↑S.ns.length)))] [] hS .nil fun a hS => sq fun K53 hK53 => ?_
 refine cond_b hS rfl (fun hb54 => ?_) (fun hb54 => ?_)
 ·
  replace hb54 := of_decide_eq_true hb54
  have hxl : (ivs (List.replicate i 4097 ++ List.replicate (S.ns.length - i) 0)).length = S.ns.length := by rw [ivs_len, List.length_append, List.length_replicate, List.length_replicate]; omega
  refine wpIn_skip <| hK53 _ _ <| sq fun K55 hK55 => wpIn_block <| sdq 2 [.p, .p] [] [(10, I6 i)] [] hS .nil fun a hS => rgn 6 <| sd ww [.p, .p, .ld (I6 4096), .p, .run ((Po w23.heap.size (0 + i * 1)))] [_, Rv (Instr.indexAt 51 (Sn S w23.heap.size) (I6 i)) ((Po w23.heap.size (0 + i * 1))) wl47] [(23, I6 4097), (24, (Po w23.heap.size (0 + i * 1)))] [] 5 1 hS (hB50.k 0 (.c (ixs 3 1 i) .nil)) fun a hS => eff_store_own ww (r := 0) (b := w23.heap.size) (off := 0 + i * 1) (u := Value.int .i64 4097) (xs := (ivs (List.replicate i 4097 ++ List.replicate (S.ns.length - i) 0))) hS (by kernel_rfl) hg1 (by omega) fun a ws57 hOs57 hEs57 hsz57 hS => ?_
  have hE62 : Ext [w23.heap.size] wm35 ws57 := hXl47.trans hEs57 (fun b hb => by simp at hb; subst hb; exact .inl (by simp))
  refine seg_end <| inBlock_normal <| hK55 _ _ <| rgn 2 <| sd ww [.as (I6 (↑i + 1)), .p] [_] [(17, I6 (↑i + 1))] [] 2 0 hS (as6 (↑i + 1)) fun a hS => seg_end ?_
  have hgs := hOs57
  rw [show Value.int .i64 4097 = I6 ((4097 : Nat) : Int) from rfl, ivs_set, fill_set _ _ (by omega)] at hgs
  exact ⟨i + 1, ⟨hS.kp [(4, (Pv w.heap.size)), (5, (Pv w2.heap.size)), (6, (Pv w7.heap.size)), (7, (Pv w14.heap.size)), (9, Sn S w23.heap.size), (16, I6 S.ns.length), (17, I6 (↑i + 1))], hE62, by omega, hgs⟩, by omega⟩
 ·
  replace hb54 := of_decide_eq_false hb54
  have hEl47 : Ext [] w wl47 := hE44.trans hXl47 (fun b hbM => by simp at hbM; rw [hbM]; exact .inr hE33.size)
  have hg2 := hg1
  rw [show S.ns.length - i = 0 by omega, List.replicate_zero, List.append_nil, show i = S.ns.length by omega] at hg2
  refine xt2 <| hK45 _ _ <| sq fun K63 hK63 => rgn 4 <| sd ww [.p, .p] [] [(26, Sn S w23.heap.size), (27, .func (.func 93) #[] #[(Pv w.heap.size), (Pv w2.heap.size), (Pv w14.heap.size), (Pv w7.heap.size)])] [] 2 2 hS .nil fun a hS => ecl 1 (some 28) hS Tryd.call92 #[Sn S w23.heap.size, .func (.func 93) #[] #[(Pv w.heap.size), (Pv w2.heap.size), (Pv w14.heap.size), (Pv w7.heap.size)]] (fixedSY_any hG (hb.trans0 hEl47) hI hB48 hB49 hB51 hB50 hg2 hn35_36 hn35_37 (Nat.le_trans hb.size hE33.size) (.start S 0 1 4097)) ?_
  rintro _ wc64 ⟨vs64, rfl, hO64, hC64, hL64, hEc64⟩
  refine ⟨_, rfl, fun a hS => ?_⟩
  have hE69 := hEl47.trans hEc64 (fun b hbM => by simp at hbM; rw [hbM]; exact .inr hE33.size)
  refine sd ww [.p] [] [(8, Sn S w23.heap.size)] [] 4 0 hS .nil fun a hS => sge hK63 <| wpIn_ret ?_
  refine ret1 hS Tryd.results60 rfl ?_
  exact ⟨_, _, rfl, hO64, hC64, hL64, hE33.size, hE69⟩
end Go.Proofs.YtkkpghlcmcaoiaaDoor
