import Derived.Test.YtkkpghlcmcaoiaaDoorS52
import Derived.Test.YtkkpghlcmcaoiaaDoorS48
import Derived.Test.YtkkpghlcmcaoiaaDoorOs
namespace Go.Proofs.YtkkpghlcmcaoiaaDoor
open Go.Vc Go.Gm
theorem First_n {w0 w : World} {S : Sp} (hG : SpOk w0 S) (hb : Ext [] w0 w) (hI : Ix S) : Calls Tryd.prog 24 #[.agg S.ca] w fun e w' => ∃ bs m cp L, e = .returned (.slice bs m cp) ∧ Bst w.heap.size (S.lx.length + 2) w' bs m cp L ∧ L.length = S.ns.length ∧ IsF S.g S.nl (onF (L.map Prod.snd)) ∧ Ext [] w w' := First_r hG hb hI
theorem Nullable_n {w0 w : World} {S : Sp} (hG : SpOk w0 S) (hb : Ext [] w0 w) (hI : Ix S) : Calls Tryd.prog 22 #[.agg S.ca] w fun e w' => ∃ g E, e = .returned (Sn S g) ∧ NuE S w' g E ∧ Ext [] w w' := by
 refine (Nullable_r hG hb hI).mono ?_
 rintro e w' ⟨g, E, rfl, hO, hD, _, hE⟩
 exact ⟨g, E, rfl, ⟨hO, hD⟩, hE⟩
theorem Check_n {w0 w : World} {S : Sp} (hG : SpOk w0 S) (hb : Ext [] w0 w) : Calls Tryd.prog 11 #[.agg S.ca] w fun e w' => ∃ z : Int × Int, e = .returned (.tuple #[I6 z.2, I6 z.1]) ∧ ChkR S z ∧ Ext [] w w' := by
 refine (Check_r hG hb).mono ?_
 rintro e w' ⟨z, hZ, rfl, hE⟩
 exact ⟨z, rfl, hZ, hE⟩
theorem heads_w {args : Array Value} {w : World} {nl n : Nat} {F : List (List Bool)} {E nx : List Bool} {r : List Sm} (h : Calls Tryd.prog 68 args w fun e w' => ∃ g o, e = .returned (Sl g n n) ∧ OwnR w' 4 1 g n n (bls o) ∧ HbR nl F E nx r o ∧ w.heap.size ≤ g ∧ Ext [] w w') :
  Calls Tryd.prog 68 args w fun e w' => ∃ bs o, e = .returned (.slice bs n n) ∧ OwnV w' 4 1 (.slice bs n n) n (bls o) ∧ (∀ x ∈ ob (.slice bs n n), w.heap.size ≤ x) ∧ HbR nl F E nx r o ∧ Ext [] w w' := by
 refine h.mono ?_
 rintro e w' ⟨g, o, rfl, hO, hR, hg, hE⟩
 exact ⟨_, o, rfl, hO.v, fun x hx => by simp [ob] at hx; rw [hx]; exact hg, hR, hE⟩
set_option maxHeartbeats 1000000 in
theorem Heads_r {w0 w : World} {S : Sp} (hG : SpOk w0 S) (hb : Ext [] w0 w) {rv : Value} {r : List Sy} (hr : RdV w0 2 rv r.length (ycells r)) (hrm : r.length ≤ 1048576) {nv : Value} {nn : Nat} {ts : List Int} (hn : RdV w0 1 nv nn (its ts)) (hnm : nn ≤ 1048576) :
  Calls Tryd.prog 34 #[.agg S.ca, rv, nv] w fun e w' => ∃ z : Int × Int, ChkR S z ∧ ((z.1 ≠ 0 ∧ e = .returned (.tuple #[.slice none 0 0, I6 z.2, I6 z.1])) ∨ (z.1 = 0 ∧ (((hdE S r ts).1 ≠ 0 ∧ e = .returned (.tuple #[.slice none 0 0, I6 (hdE S r ts).2, I6 (hdE S r ts).1])) ∨ ((hdE S r ts).1 = 0 ∧ ∃ bs n cp l, e = .returned (.tuple #[.slice bs n cp, I6 0, I6 0]) ∧ RowN w.heap.size w' bs n cp l ∧ HdsQ S r ts l)))) ∧ Ext [] w w' := by
 have hlmax := hG.lmax
 have hnmax := hG.nmax
 have hpmax := hG.pmax
 have htl : ts.length = nn := by have := hn.len; simpa [its] using this
 refine cbd 75 [(0, .agg S.ca), (1, rv), (2, nv)] Tryd.func34 rfl fun a hS => ?_
 have hE0 : Ext [] w w := Ext.refl _ _
 refine sq fun K1 hK1 => rgn 4 <| ebx 3 S.ca 26 (some 3) hS fun a w2 hw3 hS => ?_
 have hB4 := Blk.nw hw3
 have hs5 := hE0.size
 have hE6 := hE0.al hw3
 refine sd ww [.p, .p, .p] [] [(6, .slice none 0 0), (7, I6 0), (8, I6 0)] [] 4 0 hS .nil fun a hS => sge hK1 <| sq fun K7 hK7 => rgn 7 <| sd ww [.lds [S.lv, S.nv, I6 S.st, S.pv]] [_, _, _, _] [(16, .agg S.ca)] [] 1 6 hS (hB4.k 0 (hB4.k 1 (hB4.k 2 (hB4.k 3 .nil)))) fun a hS => ecl 5 (some 17) hS Tryd.call11 #[.agg S.ca] (Check_n hG (hb.trans0 hE6)) ?_
 rintro _ wc8 ⟨z8, rfl, hZ8, hEc8⟩
 refine ⟨_, rfl, fun a hS => ?_⟩
 have hB9 := hB4.ext hEc8 (by simp)
 have hE10 := hE6.trans0 hEc8
 refine sd ww [.p, .p, .p, .p, .p] [] [(9, I6 z8.2), (10, I6 z8.1)] [] 7 0 hS .nil fun a hS => sge hK7 <| sq fun K11 hK11 => sdq 2 [.p, .p] [] [(21, .bool ((z8.1 : Int) != 0))] [] hS .nil fun a hS => ?_
 refine cond_b hS rfl (fun hb13 => ?_) (fun hb13 => ?_)
 ·
  replace hb13 := test_ne_t hb13
  refine sdq 5 [.p, .p, .p, .p, .p] [] [(7, I6 z8.2), (8, I6 z8.1)] [] hS .nil fun a hS => wpIn_ret <| then_ret ?_
  refine ret3 hS Tryd.results34 rfl rfl rfl ?_
  exact ⟨z8, hZ8, .inl ⟨hb13, rfl⟩, hE10⟩
 ·
  replace hb13 := test_ne_f hb13
  have hz0 : z8.1 = 0 := by omega
  have hok := hZ8.zero.2.1 hz0
  have hI := hok.ix
  have hlx := hok.lx
  refine wpIn_skip <| hK11 _ _ <| sq fun K15 hK15 => sdq 3 [.p, .run (I6 r.length), .p] [Rv (Builtin.len_ #[71] 3 #[rv]) (I6 r.length) wc8] [(26, .bool (decide ((↑r.length : Int) > 16)))] [] hS (.c (rlr 61 hr) .nil) fun a hS => ?_
  refine cond_b hS rfl (fun hb17 => ?_) (fun hb17 => ?_)
  ·
   replace hb17 := of_decide_eq_true hb17
   have hfe : hdE S r ts = (2, 0) := if_pos (by omega)
   refine sdq 3 [.p, .p, .p] [] [(8, I6 2)] [] hS .nil fun a hS => wpIn_ret <| then_ret ?_
   refine ret3 hS Tryd.results34 rfl rfl rfl ?_
   exact ⟨z8, hZ8, .inr ⟨hz0, .inl ⟨by rw [hfe]; exact by simp, by rw [hfe]⟩⟩, hE10⟩
  ·
   replace hb17 := of_decide_eq_false hb17
   have hr16 : ¬16 < r.length := by omega
   refine wpIn_skip <| hK15 _ _ <| sq fun K19 hK19 => sdq 1 [.p] [] [(11, I6 0)] [] hS .nil fun a hS => wpIn_block ?_
   have hbl21 := (hb.trans0 hE10)
   refine loop_ghost (fun (k : Nat) a' w' => St 75 [] [(1, rv), (2, nv), (3, (Pv w.heap.size)), (6, .slice none 0 0), (7, I6 0), (8, I6 0), (11, I6 k)] a' ∧ Ext [] wc8 w' ∧ k ≤ r.length ∧ symsE S r 0 = symsE S (r.drop k) k) (fun (k : Nat) => r.length - k) 0 ⟨hS.keepTo [1, 2, 3, 6, 7, 8, 11] (by kernel_rfl), Ext.refl _ _, by omega, rfl⟩ ?_
   rintro k a wl21 ⟨hS, hXl21, hk, hsy⟩
   have hB22 := hB9.ext hXl21 (by simp)
   refine sq fun K23 hK23 => sdq 4 [.p, .p, .run (I6 r.length), .p] [Rv (Builtin.len_ #[71] 3 #[rv]) (I6 r.length) wl21] [(30, .bool (decide ((↑k : Int) < ↑r.length)))] [] hS (.c (rlr 61 hr) .nil) fun a hS => ?_
   refine cond_b hS rfl (fun hb25 => ?_) (fun hb25 => ?_)
   ·
    replace hb25 := of_decide_eq_true hb25
    obtain ⟨x, hxk⟩ : ∃ x, r[k]? = some x := ⟨_, List.getElem?_eq_getElem (by omega)⟩
    have hst := hsy
    rw [symsE_step hxk] at hst
    refine wpIn_skip <| hK23 _ _ <| sq fun K26 hK26 => wpIn_block <| sq fun K27 hK27 => ?_
    refine gh3 (G := World) [.q (.lds [S.lv, S.nv, I6 S.st, S.pv]), .q .p, .q .p, .q (.run ((Po (bof rv) (oof rv + k * 2)))), .q (.lds [I6 x.1, I6 x.2]), .e, .q .p] [0, 0, 0, 0, 0, 0, 1] [0, 0, 0, 0, 0, 0, 1] [0, 0, 0, 6, 14, 31, 63] [5] [(5, 0)] 1 (fun wc28 => ([(1, rv), (2, nv), (3, (Pv w.heap.size)), (6, .slice none 0 0), (7, I6 0), (8, I6 0), (11, I6 k), (30, .bool (decide ((↑k : Int) < ↑r.length))), (33, .agg S.ca), (34, rv), (35, I6 k), (36, (Po (bof rv) (oof rv + k * 2))), (37, .agg #[I6 x.1, I6 x.2]), (38, I6 (symE S x)), (10, I6 (symE S x))] : Fm)) (fun wc28 => [wl21.drew, wc28]) (wl21.drew) (fun e wc28 => hAt [True, (Ext [] wl21.drew wc28) ∧ True] e) (fun wc28 w' => [(0, [w'.cell? ⟨w.heap.size, 0, none⟩ = some (S.lv), w'.cell? ⟨w.heap.size, 1, none⟩ = some (S.nv), w'.cell? ⟨w.heap.size, 2, none⟩ = some (I6 S.st), w'.cell? ⟨w.heap.size, 3, none⟩ = some (S.pv)]), (3, [Rv (Instr.indexAt 71 (rv) (I6 k)) ((Po (bof rv) (oof rv + k * 2))) w']), (4, [w'.cell? ⟨bof rv, oof rv + k * 2, none⟩ = some (I6 x.1), w'.cell? ⟨bof rv, oof rv + k * 2 + 1, none⟩ = some (I6 x.2)])]) wl21.drew [1, 2, 3, 6, 7, 8, 11, 30] [] hS (fun wc28 _ => by kernel_rfl) trivial ?_ ?_ ?_
    ·rintro e wc28 w' hw hH
     refine (.c ?_ (.c ?_ (.c ?_ .nil)))
     ·intro h1 h2
      obtain rfl : e = 0 := Nat.le_antisymm h2 h1
      have hwe : wl21.drew = w' := (hw.trans (by kernel_rfl)).symm
      subst hwe
      clear hH
      exact (.c ((hB22.drew : Blk wl21.drew w.heap.size 26 (S.ca)).cell 0 rfl) (.c ((hB22.drew : Blk wl21.drew w.heap.size 26 (S.ca)).cell 1 rfl) (.c ((hB22.drew : Blk wl21.drew w.heap.size 26 (S.ca)).cell 2 rfl) (.c ((hB22.drew : Blk wl21.drew w.heap.size 26 (S.ca)).cell 3 rfl) .nil))))
     ·intro h1 h2
      obtain rfl : e = 0 := Nat.le_antisymm h2 h1
      have hwe : wl21.drew = w' := (hw.trans (by kernel_rfl)).symm
      subst hwe
      clear hH
      exact (.c (ixr 61 k hr) .nil)
     ·intro h1 h2
      obtain rfl : e = 0 := Nat.le_antisymm h2 h1
      have hwe : wl21.drew = w' := (hw.trans (by kernel_rfl)).symm
      subst hwe
      clear hH
      exact (.c ((hr.ext0 ((hbl21.trans0 hXl21).trans0 (by first | exact (Ext.refl [] _).drew | exact Ext.refl [] _))).cellAt (k * 2 + 0) (by omega) (ycells_at r k 0 x hxk (by omega))) (.c ((hr.ext0 ((hbl21.trans0 hXl21).trans0 (by first | exact (Ext.refl [] _).drew | exact Ext.refl [] _))).cellAt (k * 2 + 1) (by omega) (ycells_at r k 1 x hxk (by omega))) .nil))
    ·refine (.c ?eq29_5 .nil)
     ·rintro wc28 hH
      clear hH
      refine eff_gh (wl21.drew) (by kernel_rfl) ?_
      refine upon_call (f := 74) (vs := [.agg S.ca, .agg #[I6 x.1, I6 x.2]]) (cap := #[]) (d := (some 38)) (by kernel_rfl) Tryd.call74 #[.agg S.ca, .agg #[I6 x.1, I6 x.2]] (by kernel_rfl) (Symbol_r hG ((hbl21.trans0 hXl21).trans0 ((Ext.refl [] _).drew)) x) ?_
      rintro _ wc28 ⟨rfl, hEc28⟩
      exact ⟨_, rfl, ⟨wc28, by kernel_rfl, by kernel_rfl, by kernel_rfl, ⟨hEc28, trivial⟩⟩⟩
    rintro wc28 a w30 hS hw31 hH
    obtain ⟨hEc28, _⟩ := hH
    replace hw31 : w30 = wc28 := hw31.trans (by kernel_rfl)
    have hE33 : Ext [] wc8 w30 := by rw [hw31]; exact (hXl21.drew).trans0 hEc28
    replace hS := hS.kp [(1, rv), (2, nv), (3, (Pv w.heap.size)), (6, .slice none 0 0), (7, I6 0), (8, I6 0), (11, I6 k), (30, .bool (decide ((↑k : Int) < ↑r.length))), (10, I6 (symE S x))]
    refine hK27 _ _ <| sdq 2 [.p, .p] [] [(40, .bool ((symE S x : Int) != 0))] [] hS .nil fun a hS => ?_
    refine cond_b hS rfl (fun hb35 => ?_) (fun hb35 => ?_)
    ·
     replace hb35 := test_ne_t hb35
     have hEl21 : Ext [] w w30 := hE10.trans0 hE33
     have hse : symE S x ≠ 0 := by omega
     rw [if_pos hse] at hst
     have hfe : hdE S r ts = (symE S x, (k : Int)) := by unfold hdE; rw [if_neg hr16, hst, if_pos hse]
     refine sdq 5 [.p, .p, .p, .p, .p] [] [(7, I6 k), (8, I6 (symE S x))] [] hS .nil fun a hS => wpIn_ret <| inBlock_ret <| then_ret <| then_ret <| inBlock_ret <| then_ret ?_
     refine ret3 hS Tryd.results34 rfl rfl rfl ?_
     exact ⟨z8, hZ8, .inr ⟨hz0, .inl ⟨by rw [hfe]; exact hse, by rw [hfe]⟩⟩, hEl21⟩
    ·
     replace hb35 := test_ne_f hb35
     refine wpIn_skip <| inBlock_normal <| hK26 _ _ <| rgn 3 <| sd ww [.p, .as (I6 (↑k + 1)), .p] [_] [(11, I6 (↑k + 1))] [] 3 0 hS (as6 (↑k + 1)) fun a hS => seg_end ?_
     exact ⟨k + 1, ⟨hS.kp [(1, rv), (2, nv), (3, (Pv w.heap.size)), (6, .slice none 0 0), (7, I6 0), (8, I6 0), (11, I6 (↑k + 1))], hE33, by omega, by rw [hst, if_neg (by omega)]⟩, by omega⟩
   ·
    replace hb25 := of_decide_eq_false hb25
    have hEl21 : Ext [] w wl21 := hE10.trans0 hXl21
    rw [List.drop_eq_nil_of_le (by omega)] at hsy
    have hrk := (symsE_zero (S := S) (r := r) (i := 0) (by rw [hsy]; rfl)).2
    have hh0 : hdE S r ts = termsE S ts 0 := by unfold hdE; rw [if_neg hr16, hsy, if_neg (by simp [symsE])]
    refine wpIn_exit <| then_exit <| then_exit <| inBlock_hit <| hK19 _ _ <| sq fun K37 hK37 => rgn 3 <| sd ww [.lds [S.lv, S.nv, I6 S.st, S.pv]] [_, _, _, _] [(43, .agg S.ca)] [] 1 2 hS (hB22.k 0 (hB22.k 1 (hB22.k 2 (hB22.k 3 .nil)))) fun a hS => ecl 1 (some 44) hS Tryd.call67 #[.agg S.ca] (none_r hG (hb.trans0 hEl21)) ?_
    rintro _ wc38 ⟨g38, rfl, hO38, hgn38, hEc38⟩
    refine ⟨_, rfl, fun a hS => ?_⟩
    have hB39 := hB22.ext hEc38 (by simp)
    have hE40 := hEl21.trans0 hEc38
    refine sd ww [.p] [] [(12, Sl g38 (S.lx.length + 2) (S.lx.length + 2))] [] 3 0 hS .nil fun a hS => sge hK37 <| sq fun K41 hK41 => sdq 1 [.p] [] [(13, I6 0)] [] hS .nil fun a hS => wpIn_block ?_
    have hgn0 : w0.heap.size ≤ g38 := Nat.le_trans hb.size (Nat.le_trans hEl21.size hgn38)
    have hbl43 := (hb.trans0 hE40)
    refine loop_ghost (fun ((k, nb) : Nat × (List Bool)) a' w' => St 75 [] [(1, rv), (2, nv), (3, (Pv w.heap.size)), (6, .slice none 0 0), (7, I6 0), (8, I6 0), (12, Sl g38 (S.lx.length + 2) (S.lx.length + 2)), (13, I6 k)] a' ∧ Ext [g38] wc38 w' ∧ k ≤ nn ∧ OwnR w' 4 1 g38 (S.lx.length + 2) (S.lx.length + 2) (bls nb) ∧ termsE S ts 0 = termsE S (ts.drop k) k ∧ NxB (S.lx.length + 2) (ts.take k) nb) (fun ((k, nb) : Nat × (List Bool)) => nn - k) (0, (List.replicate (S.lx.length + 2) false)) ⟨hS.keepTo [1, 2, 3, 6, 7, 8, 12, 13] (by kernel_rfl), Ext.refl _ _, by omega, hO38, rfl, NxB.start⟩ ?_
    rintro ⟨k, nb⟩ a wl43 ⟨hS, hXl43, hk, hg1, hte, hNb⟩
    have hB44 := hB39.ext hXl43 (by simpa using (Nat.ne_of_lt (Nat.lt_of_lt_of_le hB22.lt hgn38)))
    refine sq fun K45 hK45 => sdq 4 [.p, .p, .run (I6 nn), .p] [Rv (Builtin.len_ #[51] 3 #[nv]) (I6 nn) wl43] [(48, .bool (decide ((↑k : Int) < ↑nn)))] [] hS (.c (rlr 3 hn) .nil) fun a hS => ?_
    refine cond_b hS rfl (fun hb47 => ?_) (fun hb47 => ?_)
    ·
     replace hb47 := of_decide_eq_true hb47
     obtain ⟨z, hzk⟩ : ∃ z, ts[k]? = some z := ⟨_, List.getElem?_eq_getElem (by omega)⟩
     have hst := hte
     rw [termsE_step hzk] at hst
     have hbl : (bls nb).length = (S.lx.length + 2) := by rw [bls_len, hNb.len]
     refine wpIn_skip <| hK45 _ _ <| sq fun K48 hK48 => wpIn_block <| sq fun K49 hK49 => sq fun K50 hK50 => ?_
     refine gh3 (G := World) [.q (.lds [S.lv, S.nv, I6 S.st, S.pv]), .q .p, .q .p, .q (.run ((Po (bof nv) (oof nv + k * 1)))), .q (.ld (I6 z)), .e, .q .p] [0, 0, 0, 0, 0, 0, 1] [0, 0, 0, 0, 0, 0, 1] [0, 0, 0, 6, 14, 31, 63] [5] [(5, 0)] 1 (fun wc51 => ([(1, rv), (2, nv), (3, (Pv w.heap.size)), (6, .slice none 0 0), (7, I6 0), (8, I6 0), (12, Sl g38 (S.lx.length + 2) (S.lx.length + 2)), (13, I6 k), (48, .bool (decide ((↑k : Int) < ↑nn))), (51, .agg S.ca), (52, nv), (53, I6 k), (54, (Po (bof nv) (oof nv + k * 1))), (55, I6 z), (56, .bool (decide (isTm S z))), (57, .bool (!(decide (isTm S z))))] : Fm)) (fun wc51 => [wl43.drew, wc51]) (wl43.drew) (fun e wc51 => hAt [True, (Ext [] wl43.drew wc51) ∧ True] e) (fun wc51 w' => [(0, [w'.cell? ⟨w.heap.size, 0, none⟩ = some (S.lv), w'.cell? ⟨w.heap.size, 1, none⟩ = some (S.nv), w'.cell? ⟨w.heap.size, 2, none⟩ = some (I6 S.st), w'.cell? ⟨w.heap.size, 3, none⟩ = some (S.pv)]), (3, [Rv (Instr.indexAt 51 (nv) (I6 k)) ((Po (bof nv) (oof nv + k * 1))) w']), (4, [w'.cell? ⟨bof nv, oof nv + k * 1, none⟩ = some (I6 z)])]) wl43.drew [1, 2, 3, 6, 7, 8, 12, 13, 48] [] hS (fun wc51 _ => by kernel_rfl) trivial ?_ ?_ ?_
     ·rintro e wc51 w' hw hH
      refine (.c ?_ (.c ?_ (.c ?_ .nil)))
      ·intro h1 h2
       obtain rfl : e = 0 := Nat.le_antisymm h2 h1
       have hwe : wl43.drew = w' := (hw.trans (by kernel_rfl)).symm
       subst hwe
       clear hH
       exact (.c ((hB44.drew : Blk wl43.drew w.heap.size 26 (S.ca)).cell 0 rfl) (.c ((hB44.drew : Blk wl43.drew w.heap.size 26 (S.ca)).cell 1 rfl) (.c ((hB44.drew : Blk wl43.drew w.heap.size 26 (S.ca)).cell 2 rfl) (.c ((hB44.drew : Blk wl43.drew w.heap.size 26 (S.ca)).cell 3 rfl) .nil))))
      ·intro h1 h2
       obtain rfl : e = 0 := Nat.le_antisymm h2 h1
       have hwe : wl43.drew = w' := (hw.trans (by kernel_rfl)).symm
       subst hwe
       clear hH
       exact (.c (ixr 3 k hn) .nil)
      ·intro h1 h2
       obtain rfl : e = 0 := Nat.le_antisymm h2 h1
       have hwe : wl43.drew = w' := (hw.trans (by kernel_rfl)).symm
       subst hwe
       clear hH
       exact (.c ((hn.ext0 ((hbl43.t1 hXl43 hgn0).trans0 (by first | exact (Ext.refl [] _).drew | exact Ext.refl [] _))).cellAt (k * 1) (by omega) (its_at hzk)) .nil)
     ·refine (.c ?eq52_5 .nil)
      ·rintro wc51 hH
       clear hH
       refine eff_gh (wl43.drew) (by kernel_rfl) ?_
       refine upon_call (f := 75) (vs := [.agg S.ca, I6 z]) (cap := #[]) (d := (some 56)) (by kernel_rfl) Tryd.call75 #[.agg S.ca, I6 z] (by kernel_rfl) (Terminal_r hG ((hbl43.t1 hXl43 hgn0).trans0 ((Ext.refl [] _).drew)) z) ?_
       rintro _ wc51 ⟨rfl, hEc51⟩
       exact ⟨_, rfl, ⟨wc51, by kernel_rfl, by kernel_rfl, by kernel_rfl, ⟨hEc51, trivial⟩⟩⟩
     rintro wc51 a w53 hS hw54 hH
     obtain ⟨hEc51, _⟩ := hH
     replace hw54 : w53 = wc51 := hw54.trans (by kernel_rfl)
     have hB56 := OwnR.at' hw54 ((hg1.drew : OwnR wl43.drew 4 1 g38 (S.lx.length + 2) (S.lx.length + 2) (bls nb)).ext hEc51 (by simp))
     have hE57 : Ext [g38] wc38 w53 := by rw [hw54]; exact (hXl43.drew).trans0 hEc51
     replace hS := hS.kp [(1, rv), (2, nv), (3, (Pv w.heap.size)), (6, .slice none 0 0), (7, I6 0), (8, I6 0), (12, Sl g38 (S.lx.length + 2) (S.lx.length + 2)), (13, I6 k), (48, .bool (decide ((↑k : Int) < ↑nn))), (57, .bool (!(decide (isTm S z))))]
     refine hK50 _ _ ?_
     refine cond_b hS rfl (fun hb58 => ?_) (fun hb58 => ?_)
     ·
      replace hb58 := hb58
      have hEl43 : Ext [] w w53 := hE40.trans hE57 (fun b hbM => by simp at hbM; rw [hbM]; exact .inr (Nat.le_trans hEl21.size hgn38))
      have hnt : ¬isTm S z := by simpa using hb58
      have hfe : hdE S r ts = (74, (k : Int)) := by rw [hh0, hst, if_neg hnt]
      refine sdq 4 [.p, .p, .p, .p] [] [(7, I6 k), (8, I6 74)] [] hS .nil fun a hS => wpIn_ret <| then_ret <| inBlock_ret <| then_ret <| then_ret <| inBlock_ret <| then_ret ?_
      refine ret3 hS Tryd.results34 rfl rfl rfl ?_
      exact ⟨z8, hZ8, .inr ⟨hz0, .inl ⟨by rw [hfe]; exact by simp, by rw [hfe]⟩⟩, hEl43⟩
     ·
      replace hb58 := hb58
      have htm : isTm S z := by simpa using hb58
      have hzr : 0 ≤ z ∧ z < (((S.lx.length + 2) : Nat) : Int) := by have h := htm; unfold isTm at h; omega
      refine wpIn_skip <| hK49 _ _ <| rgn 7 <| sd ww [.p, .p, .p, .run ((Po (bof nv) (oof nv + k * 1))), .ld (I6 z), .run ((Po g38 (0 + z.toNat * 1)))] [Rv (Instr.indexAt 51 (nv) (I6 k)) ((Po (bof nv) (oof nv + k * 1))) w53, w53.cell? ⟨bof nv, oof nv + k * 1, none⟩ = some (I6 z), Rv (Instr.indexAt 124 (Sl g38 (S.lx.length + 2) (S.lx.length + 2)) (I6 z)) ((Po g38 (0 + z.toNat * 1))) w53] [(64, (Po g38 (0 + z.toNat * 1)))] [] 6 1 hS (.c (ixr 3 k hn) (.c ((hn.ext0 (hbl43.t1 hE57 hgn0)).cellAt (k * 1) (by omega) (its_at hzk)) (.c (ixz 4 1 z) .nil))) fun a hS => eff_store_own ww (r := 0) (b := g38) (off := 0 + z.toNat * 1) (u := Value.bool true) (xs := (bls nb)) hS (by kernel_rfl) hB56 (by omega) fun a ws60 hOs60 hEs60 hsz60 hS => ?_
      have hE62 : Ext [g38] wc38 ws60 := hE57.trans hEs60 (fun b hb => by simp at hb; subst hb; exact .inl (by simp))
      refine seg_end <| inBlock_normal <| hK48 _ _ <| rgn 3 <| sd ww [.p, .as (I6 (↑k + 1)), .p] [_] [(13, I6 (↑k + 1))] [] 3 0 hS (as6 (↑k + 1)) fun a hS => seg_end ?_
      have hgs := hOs60
      rw [bls_set] at hgs
      exact ⟨(k + 1, (nb.set z.toNat true)), ⟨hS.kp [(1, rv), (2, nv), (3, (Pv w.heap.size)), (6, .slice none 0 0), (7, I6 0), (8, I6 0), (12, Sl g38 (S.lx.length + 2) (S.lx.length + 2)), (13, I6 (↑k + 1))], hE62, by omega, hgs, by rw [hst, if_pos htm], by rw [List.take_add_one, hzk]; exact hNb.step hzr.1 hzr.2⟩, by simp only; omega⟩
    ·
     replace hb47 := of_decide_eq_false hb47
     have hEl43 : Ext [] w wl43 := hE40.trans hXl43 (fun b hbM => by simp at hbM; rw [hbM]; exact .inr (Nat.le_trans hEl21.size hgn38))
     rw [List.drop_eq_nil_of_le (by omega)] at hte
     have hfe : hdE S r ts = (0, 0) := by rw [hh0, hte]; rfl
     rw [List.take_of_length_le (by omega)] at hNb
     refine wpIn_exit <| then_exit <| then_exit <| inBlock_hit <| hK41 _ _ <| sq fun K63 hK63 => ?_
     refine gh3 (G := (Option Addr) × Nat × Nat × (List (Nat × List Bool)) × World × Nat × (List Bool) × World × (Option Addr) × (List Bool) × World) [.q (.lds [S.lv, S.nv, I6 S.st, S.pv]), .q .p, .q .p, .q (.lds [S.lv, S.nv, I6 S.st, S.pv]), .e, .q (.lds [S.lv, S.nv, I6 S.st, S.pv]), .e, .e, .q .p] [0, 0, 0, 0, 0, 0, 1, 2, 3] [2, 2, 2, 0, 0, 1, 1, 2, 3] [0, 0, 0, 0, 8, 0, 56, 127, 255] [4, 6, 7] [(4, 0), (6, 1), (7, 2)] 3 (fun ⟨bs64, m64, cp64, L64, wc64, g65, E65, wc65, b866, o66, wc66⟩ => ([(1, rv), (2, nv), (3, (Pv w.heap.size)), (6, .slice none 0 0), (7, I6 0), (8, I6 0), (12, Sl g38 (S.lx.length + 2) (S.lx.length + 2)), (13, I6 k), (65, .agg S.ca), (66, rv), (67, Sl g38 (S.lx.length + 2) (S.lx.length + 2)), (68, .agg S.ca), (69, .slice bs64 m64 cp64), (70, .agg S.ca), (71, Sn S g65), (72, .slice b866 (S.lx.length + 2) (S.lx.length + 2)), (14, .slice b866 (S.lx.length + 2) (S.lx.length + 2))] : Fm)) (fun ⟨bs64, m64, cp64, L64, wc64, g65, E65, wc65, b866, o66, wc66⟩ => [wl43.drew, wc64, wc65, wc66]) (wl43.drew) (fun e ⟨bs64, m64, cp64, L64, wc64, g65, E65, wc65, b866, o66, wc66⟩ => hAt [True, (Bst (wl43.drew).heap.size (S.lx.length + 2) wc64 bs64 m64 cp64 L64) ∧ (L64.length = S.ns.length) ∧ (IsF S.g S.nl (onF (L64.map Prod.snd))) ∧ (Ext [] wl43.drew wc64) ∧ True, (Bst (wl43.drew).heap.size (S.lx.length + 2) wc64 bs64 m64 cp64 L64) ∧ (L64.length = S.ns.length) ∧ (IsF S.g S.nl (onF (L64.map Prod.snd))) ∧ (Ext [] wl43.drew wc64) ∧ (NuE S wc65 g65 E65) ∧ (Ext [] wc64 wc65) ∧ True, (Bst (wl43.drew).heap.size (S.lx.length + 2) wc64 bs64 m64 cp64 L64) ∧ (L64.length = S.ns.length) ∧ (IsF S.g S.nl (onF (L64.map Prod.snd))) ∧ (Ext [] wl43.drew wc64) ∧ (NuE S wc65 g65 E65) ∧ (Ext [] wc64 wc65) ∧ (OwnV wc66 4 1 (.slice b866 (S.lx.length + 2) (S.lx.length + 2)) (S.lx.length + 2) (bls o66)) ∧ (∀ x ∈ ob (.slice b866 (S.lx.length + 2) (S.lx.length + 2)), wc65.heap.size ≤ x) ∧ (HbR S.nl (L64.map Prod.snd) E65 nb (row r) o66) ∧ (Ext [] wc65 wc66) ∧ True] e) (fun ⟨bs64, m64, cp64, L64, wc64, g65, E65, wc65, b866, o66, wc66⟩ w' => [(0, [w'.cell? ⟨w.heap.size, 0, none⟩ = some (S.lv), w'.cell? ⟨w.heap.size, 1, none⟩ = some (S.nv), w'.cell? ⟨w.heap.size, 2, none⟩ = some (I6 S.st), w'.cell? ⟨w.heap.size, 3, none⟩ = some (S.pv)]), (3, [w'.cell? ⟨w.heap.size, 0, none⟩ = some (S.lv), w'.cell? ⟨w.heap.size, 1, none⟩ = some (S.nv), w'.cell? ⟨w.heap.size, 2, none⟩ = some (I6 S.st), w'.cell? ⟨w.heap.size, 3, none⟩ = some (S.pv)]), (5, [w'.cell? ⟨w.heap.size, 0, none⟩ = some (S.lv), w'.cell? ⟨w.heap.size, 1, none⟩ = some (S.nv), w'.cell? ⟨w.heap.size, 2, none⟩ = some (I6 S.st), w'.cell? ⟨w.heap.size, 3, none⟩ = some (S.pv)])]) (none, 0, 0, ([]), wl43.drew, 0, ([]), w, none, ([]), w) [1, 2, 3, 6, 7, 8, 12, 13] [] hS (fun ⟨bs64, m64, cp64, L64, wc64, g65, E65, wc65, b866, o66, wc66⟩ _ => by kernel_rfl) trivial ?_ ?_ ?_
     ·rintro e ⟨bs64, m64, cp64, L64, wc64, g65, E65, wc65, b866, o66, wc66⟩ w' hw hH
      refine (.c ?_ (.c ?_ (.c ?_ .nil)))
      ·intro h1 h2
       replace h1 : 0 ≤ e := h1
       replace h2 : e ≤ 2 := h2
       have he : e = 0 ∨ e = 1 ∨ e = 2 := by omega
       rcases he with rfl | rfl | rfl
       ·have hwe : wl43.drew = w' := (hw.trans (by kernel_rfl)).symm
        subst hwe
        clear hH
        exact (.c ((hB44.drew : Blk wl43.drew w.heap.size 26 (S.ca)).cell 0 rfl) (.c ((hB44.drew : Blk wl43.drew w.heap.size 26 (S.ca)).cell 1 rfl) (.c ((hB44.drew : Blk wl43.drew w.heap.size 26 (S.ca)).cell 2 rfl) (.c ((hB44.drew : Blk wl43.drew w.heap.size 26 (S.ca)).cell 3 rfl) .nil))))
       ·have hwe : wc64 = w' := (hw.trans (by kernel_rfl)).symm
        subst hwe
        obtain ⟨hT64, hLl64, hIF64, hEc64, _⟩ := hH
        exact (.c (((hB44.drew : Blk wl43.drew w.heap.size 26 (S.ca)).ext hEc64 (by simp) : Blk wc64 w.heap.size 26 (S.ca)).cell 0 rfl) (.c (((hB44.drew : Blk wl43.drew w.heap.size 26 (S.ca)).ext hEc64 (by simp) : Blk wc64 w.heap.size 26 (S.ca)).cell 1 rfl) (.c (((hB44.drew : Blk wl43.drew w.heap.size 26 (S.ca)).ext hEc64 (by simp) : Blk wc64 w.heap.size 26 (S.ca)).cell 2 rfl) (.c (((hB44.drew : Blk wl43.drew w.heap.size 26 (S.ca)).ext hEc64 (by simp) : Blk wc64 w.heap.size 26 (S.ca)).cell 3 rfl) .nil))))
       ·have hwe : wc65 = w' := (hw.trans (by kernel_rfl)).symm
        subst hwe
        obtain ⟨hT64, hLl64, hIF64, hEc64, hE65, hEc65, _⟩ := hH
        exact (.c ((((hB44.drew : Blk wl43.drew w.heap.size 26 (S.ca)).ext hEc64 (by simp) : Blk wc64 w.heap.size 26 (S.ca)).ext hEc65 (by simp) : Blk wc65 w.heap.size 26 (S.ca)).cell 0 rfl) (.c ((((hB44.drew : Blk wl43.drew w.heap.size 26 (S.ca)).ext hEc64 (by simp) : Blk wc64 w.heap.size 26 (S.ca)).ext hEc65 (by simp) : Blk wc65 w.heap.size 26 (S.ca)).cell 1 rfl) (.c ((((hB44.drew : Blk wl43.drew w.heap.size 26 (S.ca)).ext hEc64 (by simp) : Blk wc64 w.heap.size 26 (S.ca)).ext hEc65 (by simp) : Blk wc65 w.heap.size 26 (S.ca)).cell 2 rfl) (.c ((((hB44.drew : Blk wl43.drew w.heap.size 26 (S.ca)).ext hEc64 (by simp) : Blk wc64 w.heap.size 26 (S.ca)).ext hEc65 (by simp) : Blk wc65 w.heap.size 26 (S.ca)).cell 3 rfl) .nil))))
      ·intro h1 h2
       obtain rfl : e = 0 := Nat.le_antisymm h2 h1
       have hwe : wl43.drew = w' := (hw.trans (by kernel_rfl)).symm
       subst hwe
       clear hH
       exact (.c ((hB44.drew : Blk wl43.drew w.heap.size 26 (S.ca)).cell 0 rfl) (.c ((hB44.drew : Blk wl43.drew w.heap.size 26 (S.ca)).cell 1 rfl) (.c ((hB44.drew : Blk wl43.drew w.heap.size 26 (S.ca)).cell 2 rfl) (.c ((hB44.drew : Blk wl43.drew w.heap.size 26 (S.ca)).cell 3 rfl) .nil))))
      ·intro h1 h2
       replace h1 : 0 ≤ e := h1
       replace h2 : e ≤ 1 := h2
       have he : e = 0 ∨ e = 1 := by omega
       rcases he with rfl | rfl
       ·have hwe : wl43.drew = w' := (hw.trans (by kernel_rfl)).symm
        subst hwe
        clear hH
        exact (.c ((hB44.drew : Blk wl43.drew w.heap.size 26 (S.ca)).cell 0 rfl) (.c ((hB44.drew : Blk wl43.drew w.heap.size 26 (S.ca)).cell 1 rfl) (.c ((hB44.drew : Blk wl43.drew w.heap.size 26 (S.ca)).cell 2 rfl) (.c ((hB44.drew : Blk wl43.drew w.heap.size 26 (S.ca)).cell 3 rfl) .nil))))
       ·have hwe : wc64 = w' := (hw.trans (by kernel_rfl)).symm
        subst hwe
        obtain ⟨hT64, hLl64, hIF64, hEc64, _⟩ := hH
        exact (.c (((hB44.drew : Blk wl43.drew w.heap.size 26 (S.ca)).ext hEc64 (by simp) : Blk wc64 w.heap.size 26 (S.ca)).cell 0 rfl) (.c (((hB44.drew : Blk wl43.drew w.heap.size 26 (S.ca)).ext hEc64 (by simp) : Blk wc64 w.heap.size 26 (S.ca)).cell 1 rfl) (.c (((hB44.drew : Blk wl43.drew w.heap.size 26 (S.ca)).ext hEc64 (by simp) : Blk wc64 w.heap.size 26 (S.ca)).cell 2 rfl) (.c (((hB44.drew : Blk wl43.drew w.heap.size 26 (S.ca)).ext hEc64 (by simp) : Blk wc64 w.heap.size 26 (S.ca)).cell 3 rfl) .nil))))
     ·refine (.c ?eq67_4 (.c ?eq67_6 (.c ?eq67_7 .nil)))
      ·rintro ⟨bs64, m64, cp64, L64, wc64, g65, E65, wc65, b866, o66, wc66⟩ hH
       clear hH
       refine eff_gh (wl43.drew) (by kernel_rfl) ?_
       refine upon_call (f := 24) (vs := [.agg S.ca]) (cap := #[]) (d := (some 69)) (by kernel_rfl) Tryd.call24 #[.agg S.ca] (by kernel_rfl) (First_n hG ((hb.trans0 hEl43).trans0 ((Ext.refl [] _).drew)) hI) ?_
       rintro _ wc64 ⟨bs64, m64, cp64, L64, rfl, hT64, hLl64, hIF64, hEc64⟩
       exact ⟨_, rfl, ⟨(bs64, m64, cp64, L64, wc64, g65, E65, wc65, b866, o66, wc66), by kernel_rfl, by kernel_rfl, by kernel_rfl, ⟨hT64, hLl64, hIF64, hEc64, trivial⟩⟩⟩
      ·rintro ⟨bs64, m64, cp64, L64, wc64, g65, E65, wc65, b866, o66, wc66⟩ hH
       obtain ⟨hT64, hLl64, hIF64, hEc64, _⟩ := hH
       refine eff_gh (wc64) (by kernel_rfl) ?_
       refine upon_call (f := 22) (vs := [.agg S.ca]) (cap := #[]) (d := (some 71)) (by kernel_rfl) Tryd.call22 #[.agg S.ca] (by kernel_rfl) (Nullable_n hG ((hb.trans0 hEl43).trans0 ((((Ext.refl [] _).drew)).trans0 hEc64)) hI) ?_
       rintro _ wc65 ⟨g65, E65, rfl, hE65, hEc65⟩
       exact ⟨_, rfl, ⟨(bs64, m64, cp64, L64, wc64, g65, E65, wc65, b866, o66, wc66), by kernel_rfl, by kernel_rfl, by kernel_rfl, ⟨hT64, hLl64, hIF64, hEc64, hE65, hEc65, trivial⟩⟩⟩
      ·rintro ⟨bs64, m64, cp64, L64, wc64, g65, E65, wc65, b866, o66, wc66⟩ hH
       obtain ⟨hT64, hLl64, hIF64, hEc64, hE65, hEc65, _⟩ := hH
       refine eff_gh (wc65) (by kernel_rfl) ?_
       refine upon_call (f := 68) (vs := [.agg S.ca, rv, Sl g38 (S.lx.length + 2) (S.lx.length + 2), .slice bs64 m64 cp64, Sn S g65]) (cap := #[]) (d := (some 72)) (by kernel_rfl) Tryd.call68 #[.agg S.ca, rv, Sl g38 (S.lx.length + 2) (S.lx.length + 2), .slice bs64 m64 cp64, Sn S g65] (by kernel_rfl) (heads_w (heads_r (hG.ext0 ((hb.trans0 hEl43).trans0 ((((((Ext.refl [] _).drew)).trans0 hEc64)).trans0 hEc65))) (Ext.refl [] _) (hr.ext0 ((hb.trans0 hEl43).trans0 ((((((Ext.refl [] _).drew)).trans0 hEc64)).trans0 hEc65))) hrm hrk ((hg1).ext ((((((Ext.refl [] _).drew)).trans0 hEc64)).trans0 hEc65) (by simp)).v.rd (fun x hx => by simp [ob] at hx; rw [hx]; exact ((hg1).ext ((((((Ext.refl [] _).drew)).trans0 hEc64)).trans0 hEc65) (by simp)).lt) (Nat.le_refl _) (hT64.ext0 hEc65).own.rd (hT64.ext0 hEc65).sets hLl64 hE65.own.v.rd hE65.is.len)) ?_
       rintro _ wc66 ⟨b866, o66, rfl, hO66, hN866, hR66, hEc66⟩
       exact ⟨_, rfl, ⟨(bs64, m64, cp64, L64, wc64, g65, E65, wc65, b866, o66, wc66), by kernel_rfl, by kernel_rfl, by kernel_rfl, ⟨hT64, hLl64, hIF64, hEc64, hE65, hEc65, hO66, hN866, hR66, hEc66, trivial⟩⟩⟩
     rintro ⟨bs64, m64, cp64, L64, wc64, g65, E65, wc65, b866, o66, wc66⟩ a w68 hS hw69 hH
     obtain ⟨hT64, hLl64, hIF64, hEc64, hE65, hEc65, hO66, hN866, hR66, hEc66, _⟩ := hH
     replace hw69 : w68 = wc66 := hw69.trans (by kernel_rfl)
     have hB72 : OwnV w68 4 1 (.slice b866 (S.lx.length + 2) (S.lx.length + 2)) (S.lx.length + 2) (bls o66) := by rw [hw69]; exact hO66
     have hE73 : Ext [] w w68 := by rw [hw69]; exact (((hEl43.drew).trans0 hEc64).trans0 hEc65).trans0 hEc66
     replace hS := hS.kp [(1, rv), (2, nv), (3, (Pv w.heap.size)), (6, .slice none 0 0), (7, I6 0), (8, I6 0), (12, Sl g38 (S.lx.length + 2) (S.lx.length + 2)), (13, I6 k), (14, .slice b866 (S.lx.length + 2) (S.lx.length + 2))]
     refine hK63 _ _ <| sq fun K74 hK74 => rgn 5 <| sd ww [.p] [] [(73, .slice b866 (S.lx.length + 2) (S.lx.length + 2))] [] 1 4 hS .nil fun a hS => ecl 3 (some 74) hS Tryd.call66 #[.slice b866 (S.lx.length + 2) (S.lx.length + 2)] (List_r (hB72).rd (by omega)) ?_
     rintro _ wc75 ⟨b375, n375, c375, rfl, hRn75, hEc75⟩
     refine ⟨_, rfl, fun a hS => ?_⟩
     have hE79 := hE73.trans0 hEc75
     refine sd ww [.p, .p, .p] [] [(6, .slice b375 n375 c375)] [] 5 0 hS .nil fun a hS => sge hK74 <| wpIn_ret ?_
     refine ret3 hS Tryd.results34 rfl rfl rfl ?_
     exact ⟨z8, hZ8, .inr ⟨hz0, .inr ⟨by rw [hfe], _, _, _, _, rfl, hRn75.mono hE73.size, .of hE65.is hIF64 hNb hR66⟩⟩, hE79⟩
end Go.Proofs.YtkkpghlcmcaoiaaDoor
