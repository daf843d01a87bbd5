import Derived.Test.YtkkpghlcmcaoiaaDoorS50
namespace Go.Proofs.YtkkpghlcmcaoiaaDoor
open Go.Vc Go.Gm
set_option maxHeartbeats 1000000 in
theorem heads_r {w0 w : World} {S : Sp} (hG : SpOk w0 S) (hb : Ext [] w0 w) {rv : Value} {r : List Sy} (hr : RdV w0 2 rv r.length (ycells r)) (hrm : r.length ≤ 1048576) (hrk : ∀ x ∈ r, syOk S x) {nv : Value} {nx : List Bool} {mx : Nat} (hn : RdV w0 1 nv mx (bls nx)) (hnl : ∀ x ∈ ob nv, x < w0.heap.size) (hnx : mx ≤ (S.lx.length + 2)) {fv : Value} {Nf nf : Nat} {L : List (Nat × List Bool)} (hF : RdV w0 1 fv nf (L.map (bcl (S.lx.length + 2)))) (hL : BsL w0 Nf (S.lx.length + 2) L) (hLn : L.length = S.ns.length) {ev : Value} {E : List Bool} (hE : RdV w0 1 ev S.ns.length (bls E)) (hEl : E.length = S.ns.length) :
  Calls Tryd.prog 68 #[.agg S.ca, rv, nv, fv, ev] w fun e w' => ∃ g o, e = .returned (Sl g (S.lx.length + 2) (S.lx.length + 2)) ∧ OwnR w' 4 1 g (S.lx.length + 2) (S.lx.length + 2) (bls o) ∧ HbR S.nl (L.map Prod.snd) E nx (row r) o ∧ w.heap.size ≤ g ∧ Ext [] w w' := by
 have hlmax := hG.lmax
 have hnmax := hG.nmax
 have hpmax := hG.pmax
 have hnf : nf = S.ns.length := by have := hF.len; simp at this; omega
 refine cbd 61 [(0, .agg S.ca), (1, rv), (2, nv), (3, fv), (4, ev)] Tryd.func68 rfl fun a hS => ?_
 have hE0 : Ext [] w w := Ext.refl _ _
 refine sq fun K1 hK1 => rgn 2 <| ebx 1 S.ca 26 (some 5) hS fun a w2 hw3 hS => ?_
 have hB4 := Blk.nw hw3
 have hs5 := hE0.size
 have hE6 := hE0.al hw3
 refine sd ww [.p] [] [(10, .slice none 0 0)] [] 2 0 hS .nil fun a hS => sge hK1 <| sq fun K7 hK7 => rgn 3 <| sd ww [.lds [S.lv, S.nv, I6 S.st, S.pv]] [_, _, _, _] [(14, .agg S.ca)] [] 1 2 hS (hB4.k 0 (hB4.k 1 (hB4.k 2 (hB4.k 3 .nil)))) fun a hS => ecl 1 (some 15) hS Tryd.call67 #[.agg S.ca] (none_r hG (hb.trans0 hE6)) ?_
 rintro _ wc8 ⟨g8, rfl, hO8, hgn8, hEc8⟩
 refine ⟨_, rfl, fun a hS => ?_⟩
 have hB9 := hB4.ext hEc8 (by simp)
 have hE10 := hE6.trans0 hEc8
 refine sd ww [.p] [] [(11, Sl g8 (S.lx.length + 2) (S.lx.length + 2))] [] 3 0 hS .nil fun a hS => sge hK7 <| sq fun K11 hK11 => sdq 1 [.p] [] [(12, I6 0)] [] hS .nil fun a hS => wpIn_block ?_
 have hgn0 : w0.heap.size ≤ g8 := Nat.le_trans hb.size (Nat.le_trans hE6.size hgn8)
 have hbl13 := (hb.trans0 hE10)
 refine loop_ghost (fun ((k, o) : Nat × (List Bool)) a' w' => St 61 [] [(1, rv), (2, nv), (3, fv), (4, ev), (5, (Pv w.heap.size)), (11, Sl g8 (S.lx.length + 2) (S.lx.length + 2)), (12, I6 k)] a' ∧ Ext [g8] wc8 w' ∧ k ≤ r.length ∧ OwnR w' 4 1 g8 (S.lx.length + 2) (S.lx.length + 2) (bls o) ∧ HbI S.nl (L.map Prod.snd) E nx (row r) ((row r).drop k) o) (fun ((k, o) : Nat × (List Bool)) => r.length - k) (0, (List.replicate (S.lx.length + 2) false)) ⟨hS.keepTo [1, 2, 3, 4, 5, 11, 12] (by kernel_rfl), Ext.refl _ _, by omega, hO8, HbI.start⟩ ?_
 rintro ⟨k, o⟩ a wl13 ⟨hS, hXl13, hk, hg1, hH⟩
 have hB14 := hB9.ext hXl13 (by simpa using (Nat.ne_of_lt (Nat.lt_of_lt_of_le hB4.lt hgn8)))
 refine sq fun K15 hK15 => sdq 4 [.p, .p, .run (I6 r.length), .p] [Rv (Builtin.len_ #[71] 3 #[rv]) (I6 r.length) wl13] [(19, .bool (decide ((↑k : Int) < ↑r.length)))] [] hS (.c (rlr 61 hr) .nil) fun a hS => ?_
 refine cond_b hS rfl (fun hb17 => ?_) (fun hb17 => ?_)
 ·
  replace hb17 := of_decide_eq_true hb17
  obtain ⟨x, hxk⟩ : ∃ x, r[k]? = some x := gE
  have hxm := List.mem_of_getElem? hxk
  have hH1 := hH
  rw [row_at hxk] at hH1
  have hol := hH.len
  rw [show S.nl = S.lx.length from rfl] at hol
  have hbm : (bls o).length = (S.lx.length + 2) := by rw [bls_len]; exact hol
  refine wpIn_skip <| hK15 _ _ <| sq fun K18 hK18 => wpIn_block <| sq fun K19 hK19 => rgn 6 <| sd ww [.p, .p, .run ((Po (bof rv) (oof rv + k * 2))), .lds [I6 x.1, I6 x.2]] [Rv (Instr.indexAt 71 (rv) (I6 k)) ((Po (bof rv) (oof rv + k * 2))) wl13, wl13.cell? ⟨bof rv, oof rv + k * 2, none⟩ = some (I6 x.1), wl13.cell? ⟨bof rv, oof rv + k * 2 + 1, none⟩ = some (I6 x.2)] [(25, .agg #[I6 x.1, I6 x.2])] [] 4 2 hS (.c (ixr 61 k hr) (.c ((hr.ext0 (hbl13.t1 hXl13 hgn0)).cellAt (k * 2 + 0) (by omega) (ycells_at r k 0 x hxk (by omega))) (.c ((hr.ext0 (hbl13.t1 hXl13 hgn0)).cellAt (k * 2 + 1) (by omega) (ycells_at r k 1 x hxk (by omega))) .nil))) fun a hS => ebx 1 #[I6 0, I6 0] 61 (some 13) hS fun a w20 hw21 hS => ?_
  have hn22 := Nat.ne_of_lt hB14.lt
  have hn23 := Nat.ne_of_lt hg1.lt
  have hB24 := Blk.at' hw21 (hB14.alloc _)
  have hB25 := OwnR.at' hw21 (hg1.alloc _)
  have hB26 := Blk.nw hw21
  have hs27 := hXl13.size
  have hE28 := hXl13.al hw21
  refine est 0 wl13.heap.size 0 [I6 x.1, I6 x.2] hS hB26 fun a w29 hw30 hS => ?_
  have hB31 := Blk.at' hw30 (hB24.updNe (Ne.symm hn22) _ _)
  have hB32 := OwnR.at' hw30 (hB25.updNe (Ne.symm hn23) _ _)
  have hB33 : Blk w29 wl13.heap.size 61 (#[I6 x.1, I6 x.2]) := hB26.up hw30
  have hE34 := hE28.ui hw30 hs27
  refine sge hK19 <| sq fun K35 hK35 => sq fun K36 hK36 => ?_
  rcases (show (x.1 = 1 ∧ 0 ≤ x.2 ∧ x.2 < S.lx.length ∧ sm x = .t x.2.toNat) ∨ (x.1 = 2 ∧ x.2 = 0 ∧ sm x = .e) ∨ (x.1 = 3 ∧ 0 ≤ x.2 ∧ x.2 < S.ns.length ∧ sm x = .m x.2.toNat) from sy_kinds (hrk x hxm)) with ⟨h1, h2, h3, h4⟩ | ⟨h1, h2, h3⟩ | ⟨h1, h2, h3, h4⟩
  ·
   rw [h4] at hH1
   have hEl13 : Ext [] w w29 := hE10.trans hE34 (fun b hbM => by simp at hbM; rw [hbM]; exact .inr (Nat.le_trans hE6.size hgn8))
   refine rgn 2 <| sd ww [.p, .ld (I6 x.1)] [_] [(27, I6 x.1)] [] 2 0 hS (hB33.k 0 .nil) fun a hS => sge hK36 <| wpIn_block <| sdq 2 [.as (.bool true), .p] [Value.bool (((x.1 : Int) == 1)) = .bool true] [(28, .bool true)] [] hS (.c (as_eq_t (by omega)) .nil) fun a hS => ?_
   refine cond_t hS rfl ?_
   refine sq fun K38 hK38 => rgn 5 <| sd ww [.p, .p, .ld (I6 x.2), .run ((Po g8 (0 + x.2.toNat * 1)))] [_, Rv (Instr.indexAt 124 (Sl g8 (S.lx.length + 2) (S.lx.length + 2)) (I6 x.2)) ((Po g8 (0 + x.2.toNat * 1))) w29] [(33, (Po g8 (0 + x.2.toNat * 1)))] [] 4 1 hS (hB33.k 1 (.c (ixz 4 1 x.2) .nil)) fun a hS => eff_store_own ww (r := 0) (b := g8) (off := 0 + x.2.toNat * 1) (u := Value.bool true) (xs := (bls o)) hS (by kernel_rfl) hB32 (by omega) fun a ws39 hOs39 hEs39 hsz39 hS => ?_
   have hE42 : Ext [] w ws39 := hEl13.trans hEs39 (fun b hb => by simp at hb; subst hb; exact .inr (Nat.le_trans hE6.size hgn8))
   refine sge hK38 <| sdq 2 [.p, .p] [] [(10, Sl g8 (S.lx.length + 2) (S.lx.length + 2))] [] hS .nil fun a hS => wpIn_ret <| inBlock_ret <| then_ret <| inBlock_ret <| then_ret <| then_ret <| inBlock_ret <| then_ret ?_
   have hgs := hOs39
   rw [bls_set] at hgs
   refine ret1 hS Tryd.results68 rfl ?_
   exact ⟨_, _, rfl, hgs, hH1.t (by have : S.nl = S.lx.length := rfl; omega), (Nat.le_trans hE6.size hgn8), hE42⟩
  ·
   rw [h3] at hH1
   have hEl13 : Ext [] w w29 := hE10.trans hE34 (fun b hbM => by simp at hbM; rw [hbM]; exact .inr (Nat.le_trans hE6.size hgn8))
   refine rgn 2 <| sd ww [.p, .ld (I6 x.1)] [_] [(27, I6 x.1)] [] 2 0 hS (hB33.k 0 .nil) fun a hS => sge hK36 <| wpIn_block <| sdq 2 [.as (.bool false), .p] [Value.bool (((x.1 : Int) == 1)) = .bool false] [(28, .bool false)] [] hS (.c (as_eq_f (by omega)) .nil) fun a hS => ?_
   refine cond_f hS rfl ?_
   refine sdq 2 [.as (.bool true), .p] [Value.bool (((x.1 : Int) == 2)) = .bool true] [(35, .bool true)] [] hS (.c (as_eq_t (by omega)) .nil) fun a hS => ?_
   refine cond_t hS rfl ?_
   refine sq fun K46 hK46 => rgn 6 <| sd ww [.p, .p, .ld (S.lv), .run (I6 S.lx.length), .run ((Po g8 (0 + S.lx.length * 1)))] [_, Rv (Builtin.len_ #[22] 3 #[S.lv]) (I6 S.lx.length) w29, Rv (Instr.indexAt 124 (Sl g8 (S.lx.length + 2) (S.lx.length + 2)) (I6 S.lx.length)) ((Po g8 (0 + S.lx.length * 1))) w29] [(41, (Po g8 (0 + S.lx.length * 1)))] [] 5 1 hS (hB31.k 0 (.c (rlr 100 hG.lex) (.c (ixs 4 1 S.lx.length) .nil))) fun a hS => eff_store_own ww (r := 0) (b := g8) (off := 0 + S.lx.length * 1) (u := Value.bool true) (xs := (bls o)) hS (by kernel_rfl) hB32 (by omega) fun a ws47 hOs47 hEs47 hsz47 hS => ?_
   have hE50 : Ext [] w ws47 := hEl13.trans hEs47 (fun b hb => by simp at hb; subst hb; exact .inr (Nat.le_trans hE6.size hgn8))
   refine sge hK46 <| sq fun K51 hK51 => rgn 2 <| sg ww [.p, .p] [] [(1, rv), (2, nv), (3, fv), (4, ev), (5, (Pv w.heap.size)), (11, Sl g8 (S.lx.length + 2) (S.lx.length + 2)), (12, I6 k), (13, (Pv wl13.heap.size)), (27, I6 x.1), (28, .bool false), (35, .bool true), (10, Sl g8 (S.lx.length + 2) (S.lx.length + 2))] 2 0 hS .nil fun a hS => sge hK51 <| wpIn_ret <| inBlock_ret <| then_ret <| inBlock_ret <| then_ret <| then_ret <| inBlock_ret <| then_ret ?_
   have hgs := hOs47
   rw [bls_set] at hgs
   refine ret1 hS Tryd.results68 rfl ?_
   exact ⟨_, _, rfl, hgs, hH1.e, (Nat.le_trans hE6.size hgn8), hE50⟩
  ·
   rw [h4] at hH1
   obtain ⟨fx, hfx⟩ : ∃ fx, L[x.2.toNat]? = some fx := gE
   have hfl := hL.len hfx
   have hfn := hL.lt hfx
   refine rgn 2 <| sd ww [.p, .ld (I6 x.1)] [_] [(27, I6 x.1)] [] 2 0 hS (hB33.k 0 .nil) fun a hS => sge hK36 <| wpIn_block <| sdq 2 [.as (.bool false), .p] [Value.bool (((x.1 : Int) == 1)) = .bool false] [(28, .bool false)] [] hS (.c (as_eq_f (by omega)) .nil) fun a hS => ?_
   refine cond_f hS rfl ?_
   refine sdq 2 [.as (.bool false), .p] [Value.bool (((x.1 : Int) == 2)) = .bool false] [(35, .bool false)] [] hS (.c (as_eq_f (by omega)) .nil) fun a hS => ?_
   refine cond_f hS rfl ?_
   refine wpIn_skip <| inBlock_normal <| hK35 _ _ <| sq fun K54 hK54 => rgn 7 <| sd ww [.p, .p, .p, .ld (I6 x.2), .run ((Po (bof fv) (oof fv + x.2.toNat * 1))), .ld (Sl fx.1 (S.lx.length + 2) (S.lx.length + 2))] [_, Rv (Instr.indexAt 47 (fv) (I6 x.2)) ((Po (bof fv) (oof fv + x.2.toNat * 1))) w29, w29.cell? ⟨bof fv, oof fv + x.2.toNat * 1, none⟩ = some (Sl fx.1 (S.lx.length + 2) (S.lx.length + 2))] [(43, Sl g8 (S.lx.length + 2) (S.lx.length + 2)), (48, Sl fx.1 (S.lx.length + 2) (S.lx.length + 2))] [] 6 1 hS (hB33.k 1 (.c (ix_rd (e := 124) (j := x.2.toNat) hF (by kernel_rfl) (by kernel_rfl) (Int.toNat_of_nonneg (by omega)).symm (by omega)) (.c ((hF.ext0 (hbl13.t1 hE34 hgn0)).cellAt (x.2.toNat * 1) (by omega) (bcl_at hfx)) .nil))) fun a hS => ecl 0 (some 49) hS Tryd.call69 #[Sl g8 (S.lx.length + 2) (S.lx.length + 2), Sl fx.1 (S.lx.length + 2) (S.lx.length + 2)] (Add_r hB32 (m0 := (S.lx.length + 2)) (((hL.ext0 (hbl13.t1 hE34 hgn0)).rows _ fx hfx).v.rd) (by simp [ob]; omega) (Nat.le_refl _) (by omega)) ?_
   rintro _ wc55 ⟨c55, m55, rfl, hO55, hP55, hEc55⟩
   refine ⟨_, rfl, fun a hS => ?_⟩
   have hB57 := hB33.ext hEc55 (by simpa using (Ne.symm hn23))
   have hE58 := hE34.trans hEc55 (fun b hbM => by simp at hbM; rw [hbM]; exact .inl (by simp))
   refine sge hK54 <| sq fun K59 hK59 => ?_
   rcases (show (E[x.2.toNat]? = some true) ∨ (E[x.2.toNat]? = some false) from bool_cases (by omega)) with h5 | h5
   ·
    refine rgn 6 <| sg ww [.p, .p, .ld (I6 x.2), .run ((Po (bof ev) (oof ev + x.2.toNat * 1))), .ld (.bool true), .p] [_, Rv (Instr.indexAt 31 (ev) (I6 x.2)) ((Po (bof ev) (oof ev + x.2.toNat * 1))) wc55, wc55.cell? ⟨bof ev, oof ev + x.2.toNat * 1, none⟩ = some (.bool true)] [(1, rv), (2, nv), (3, fv), (4, ev), (5, (Pv w.heap.size)), (11, Sl g8 (S.lx.length + 2) (S.lx.length + 2)), (12, I6 k), (19, .bool (decide ((↑k : Int) < ↑r.length))), (13, (Pv wl13.heap.size)), (27, I6 x.1), (28, .bool false), (35, .bool false), (55, .bool false)] 6 0 hS (hB57.k 1 (.c (ix_rd (e := 4) (j := x.2.toNat) hE (by kernel_rfl) (by kernel_rfl) (Int.toNat_of_nonneg (by omega)).symm (by omega)) (.c ((hE.ext0 (hbl13.t1 hE58 hgn0)).cellAt (x.2.toNat * 1) (by omega) (bls_at' h5)) .nil))) fun a hS => sge hK59 ?_
    refine cond_f hS rfl ?_
    refine wpIn_skip <| inBlock_normal <| hK18 _ _ <| rgn 3 <| sd ww [.p, .as (I6 (↑k + 1)), .p] [_] [(12, I6 (↑k + 1))] [] 3 0 hS (as6 (↑k + 1)) fun a hS => seg_end ?_
    exact ⟨(k + 1, c55), ⟨hS.kp [(1, rv), (2, nv), (3, fv), (4, ev), (5, (Pv w.heap.size)), (11, Sl g8 (S.lx.length + 2) (S.lx.length + 2)), (12, I6 (↑k + 1))], hE58, by omega, hO55, hH1.m (snd_at hfx) hP55 h5⟩, by simp only; omega⟩
   ·
    have hEl13 : Ext [] w wc55 := hE10.trans hE58 (fun b hbM => by simp at hbM; rw [hbM]; exact .inr (Nat.le_trans hE6.size hgn8))
    refine rgn 6 <| sg ww [.p, .p, .ld (I6 x.2), .run ((Po (bof ev) (oof ev + x.2.toNat * 1))), .ld (.bool false), .p] [_, Rv (Instr.indexAt 31 (ev) (I6 x.2)) ((Po (bof ev) (oof ev + x.2.toNat * 1))) wc55, wc55.cell? ⟨bof ev, oof ev + x.2.toNat * 1, none⟩ = some (.bool false)] [(1, rv), (2, nv), (3, fv), (4, ev), (5, (Pv w.heap.size)), (11, Sl g8 (S.lx.length + 2) (S.lx.length + 2)), (12, I6 k), (13, (Pv wl13.heap.size)), (27, I6 x.1), (28, .bool false), (35, .bool false), (55, .bool true)] 6 0 hS (hB57.k 1 (.c (ix_rd (e := 4) (j := x.2.toNat) hE (by kernel_rfl) (by kernel_rfl) (Int.toNat_of_nonneg (by omega)).symm (by omega)) (.c ((hE.ext0 (hb.trans0 hEl13)).cellAt (x.2.toNat * 1) (by omega) (bls_at' h5)) .nil))) fun a hS => sge hK59 ?_
    refine cond_t hS rfl ?_
    refine sdq 2 [.p, .p] [] [(10, Sl g8 (S.lx.length + 2) (S.lx.length + 2))] [] hS .nil fun a hS => wpIn_ret <| inBlock_ret <| then_ret <| then_ret <| inBlock_ret <| then_ret ?_
    refine ret1 hS Tryd.results68 rfl ?_
    exact ⟨_, _, rfl, hO55, hH1.stop (snd_at hfx) hP55 (off_of h5), (Nat.le_trans hE6.size hgn8), hEl13⟩
 ·
  replace hb17 := of_decide_eq_false hb17
  have hEl13 : Ext [] w wl13 := hE10.trans hXl13 (fun b hbM => by simp at hbM; rw [hbM]; exact .inr (Nat.le_trans hE6.size hgn8))
  rw [List.drop_eq_nil_of_le (by rw [row_len]; omega)] at hH
  have hol := hH.len
  rw [show S.nl = S.lx.length from rfl] at hol
  refine xt2 <| hK11 _ _ <| sq fun K61 hK61 => rgn 3 <| sd ww [.p, .p] [] [(57, Sl g8 (S.lx.length + 2) (S.lx.length + 2)), (58, nv)] [] 2 1 hS .nil fun a hS => ecl 0 (some 59) hS Tryd.call69 #[Sl g8 (S.lx.length + 2) (S.lx.length + 2), nv] (Add_r hg1 (hn.ext0 (hb.trans0 hEl13)) (fun x hx hm => by simp at hm; have := hnl x hx; omega) hnx (by omega)) ?_
  rintro _ wc62 ⟨c62, m62, rfl, hO62, hP62, hEc62⟩
  refine ⟨_, rfl, fun a hS => ?_⟩
  have hE64 := hEl13.trans hEc62 (fun b hbM => by simp at hbM; rw [hbM]; exact .inr (Nat.le_trans hE6.size hgn8))
  refine sge hK61 <| sdq 2 [.p, .p] [] [(10, Sl g8 (S.lx.length + 2) (S.lx.length + 2))] [] hS .nil fun a hS => wpIn_ret ?_
  refine ret1 hS Tryd.results68 rfl ?_
  exact ⟨_, _, rfl, hO62, hH.done hP62, (Nat.le_trans hE6.size hgn8), hE64⟩
end Go.Proofs.YtkkpghlcmcaoiaaDoor
