import Derived.Test.YtkkpghlcmcaoiaaDoorS13
import Derived.Test.YtkkpghlcmcaoiaaDoorSa
import Derived.Test.YtkkpghlcmcaoiaaDoorMk
namespace Go.Proofs.YtkkpghlcmcaoiaaDoor
open Go.Vc Go.Gm
set_option maxHeartbeats 1000000 in
theorem Heads_any {w0 w : World} {S : Sp} (hG : SpOk w0 S) (hb : Ext [] w0 w) (hT : Tab w0) {rv : Value} {r : List Sy} (hr : RdV w0 2 rv r.length (ycells r)) (hrm : r.length ≤ 1048576) {nv : Value} {nn : Nat} {ts : List Int} (hn : RdV w0 1 nv nn (its ts)) (hnm : nn ≤ 1048576) :
  Calls Tryd.prog 33 #[.agg S.ca, rv, nv] w fun e w' => ∃ z : Int × Int, ChkR S z ∧ ((z.1 ≠ 0 ∧ e = .returned (.tuple #[.slice none 0 0, .agg #[I6 z.1, I6 z.2, .string ⟨#[]⟩]])) ∨ (z.1 = 0 ∧ (((hdE S r ts).1 ≠ 0 ∧ e = .returned (.tuple #[.slice none 0 0, .agg #[I6 (hdE S r ts).1, I6 (hdE S r ts).2, .string ⟨#[]⟩]])) ∨ ((hdE S r ts).1 = 0 ∧ ∃ bs n cp l, e = .returned (.tuple #[.slice bs n cp, .agg #[I6 0, I6 0, .string ⟨#[]⟩]]) ∧ RowN w.heap.size w' bs n cp l ∧ HdsR S r ts l)))) ∧ Ext [] w w' := by
 have hlmax := hG.lmax
 have hnmax := hG.nmax
 have hpmax := hG.pmax
 have htl : ts.length = nn := by have := hn.len; simpa [its] using this
 refine cbd 96 [(0, .agg S.ca), (1, rv), (2, nv)] Tryd.func33 rfl fun a hS => ?_
 have hE0 : Ext [] w w := Ext.refl _ _
 refine sq fun K1 hK1 => rgn 3 <| ebx 2 S.ca 26 (some 3) hS fun a w2 hw3 hS => ?_
 have hB4 := Blk.nw hw3
 have hs5 := hE0.size
 have hE6 := hE0.al hw3
 refine sd ww [.p] [] [(6, .slice none 0 0)] [] 2 1 hS .nil fun a hS => ebx 0 #[I6 0, I6 0, .string ⟨#[]⟩] 34 (some 7) hS fun a w7 hw8 hS => ?_
 have hB10 := Blk.at' hw8 (hB4.alloc _)
 have hB11 := Blk.nw hw8
 have hs12 := hE6.size
 have hE13 := hE6.al hw8
 refine sge hK1 <| sq fun K14 hK14 => sq fun K15 hK15 => rgn 4 <| sd ww [.lds [S.lv, S.nv, I6 S.st, S.pv]] [_, _, _, _] [(17, .agg S.ca)] [] 1 3 hS (hB10.k 0 (hB10.k 1 (hB10.k 2 (hB10.k 3 .nil)))) fun a hS => ecl 2 (some 18) hS Tryd.call36 #[.agg S.ca] (check_any hG (hb.trans0 hE13)) ?_
 rintro _ wc16 ⟨z16, rfl, hZ16, hEc16⟩
 refine ⟨_, rfl, fun a hS => ?_⟩
 have hB17 := hB10.ext hEc16 (by simp)
 have hB18 := hB11.ext hEc16 (by simp)
 have hE19 := hE13.trans0 hEc16
 refine ebx 1 #[I6 0, I6 0, .string ⟨#[]⟩] 34 (some 8) hS fun a w20 hw21 hS => ?_
 have hn22 := Nat.ne_of_lt hB17.lt
 have hn23 := Nat.ne_of_lt hB18.lt
 have hB24 := Blk.at' hw21 (hB17.alloc _)
 have hB25 := Blk.at' hw21 (hB18.alloc _)
 have hB26 := Blk.nw hw21
 have hs27 := hE19.size
 have hE28 := hE19.al hw21
 refine est 0 wc16.heap.size 0 [I6 z16.1, I6 z16.2, .string ⟨#[]⟩] hS hB26 fun a w29 hw30 hS => ?_
 have hB31 := Blk.at' hw30 (hB24.updNe (Ne.symm hn22) _ _)
 have hB32 := Blk.at' hw30 (hB25.updNe (Ne.symm hn23) _ _)
 have hB33 : Blk w29 wc16.heap.size 34 (#[I6 z16.1, I6 z16.2, .string ⟨#[]⟩]) := hB26.up hw30
 have hE34 := hE28.ui hw30 hs27
 refine sge hK15 <| sdq 3 [.p, .ld (I6 z16.1), .p] [_] [(21, .bool ((z16.1 : Int) != 0))] [] hS (hB33.k 0 .nil) fun a hS => ?_
 refine cond_b hS rfl (fun hb36 => ?_) (fun hb36 => ?_)
 ·
  replace hb36 := test_ne_t hb36
  refine sq fun K37 hK37 => ?_
  refine fn3 [.q (.lds [I6 z16.1, I6 z16.2, .string ⟨#[]⟩]), .q .p, .e] [0, 0, 0] [0, 0, 0] [0, 0, 3] [2] 1 ([(0, .agg S.ca), (1, rv), (2, nv), (3, (Pv w.heap.size)), (7, (Pv w2.heap.size)), (8, (Pv wc16.heap.size)), (21, .bool ((z16.1 : Int) != 0)), (6, .slice none 0 0), (22, .agg #[I6 z16.1, I6 z16.2, .string ⟨#[]⟩])]) [w29.drew, upd (w29.drew) (w2.heap.size) 34 #[I6 z16.1, I6 z16.2, .string ⟨#[]⟩]] w29.drew (fun w' => [(0, [w'.cell? ⟨wc16.heap.size, 0, none⟩ = some (I6 z16.1), w'.cell? ⟨wc16.heap.size, 1, none⟩ = some (I6 z16.2), w'.cell? ⟨wc16.heap.size, 2, none⟩ = some (.string ⟨#[]⟩)])]) [0, 1, 2, 3, 7, 8, 21] [] hS (fun _ => by kernel_rfl) ?_ ?_ ?_
  ·intro e w' hw
   refine (.c ?_ .nil)
   ·intro h1 h2
    obtain rfl := Nat.le_antisymm h2 h1
    obtain rfl : w' = w29.drew := hw.trans (by kernel_rfl)
    exact (.c ((hB33.drew : Blk w29.drew wc16.heap.size 34 (#[I6 z16.1, I6 z16.2, .string ⟨#[]⟩])).cell 0 rfl) (.c ((hB33.drew : Blk w29.drew wc16.heap.size 34 (#[I6 z16.1, I6 z16.2, .string ⟨#[]⟩])).cell 1 rfl) (.c ((hB33.drew : Blk w29.drew wc16.heap.size 34 (#[I6 z16.1, I6 z16.2, .string ⟨#[]⟩])).cell 2 rfl) .nil)))
  ·refine (.c ?eq38_2 .nil)
   ·refine eff_at (w29.drew) (upd (w29.drew) (w2.heap.size) 34 #[I6 z16.1, I6 z16.2, .string ⟨#[]⟩]) (by kernel_rfl) (by kernel_rfl) ?_
    exact upon_store (b := w2.heap.size) (off := 0) (vs := [I6 z16.1, I6 z16.2, .string ⟨#[]⟩]) (by kernel_rfl) (hB32.drew : Blk w29.drew w2.heap.size 34 (#[I6 0, I6 0, .string ⟨#[]⟩])) (by simp) ⟨by kernel_rfl, by kernel_rfl⟩
  rintro a w39 hS hw40
  replace hw40 : w39 = upd (w29.drew) (w2.heap.size) 34 #[I6 z16.1, I6 z16.2, .string ⟨#[]⟩] := hw40.trans (by kernel_rfl)
  have hB42 : Blk w39 w2.heap.size 34 (#[I6 z16.1, I6 z16.2, .string ⟨#[]⟩]) := by rw [hw40]; exact (hB32.drew).upd _ _
  have hE44 : Ext [] w w39 := by rw [hw40]; exact (hE34.drew).updIn (.inr hs12) _ _
  replace hS := hS.kp [(0, .agg S.ca), (1, rv), (2, nv), (3, (Pv w.heap.size)), (7, (Pv w2.heap.size)), (8, (Pv wc16.heap.size)), (21, .bool ((z16.1 : Int) != 0)), (6, .slice none 0 0)]
  refine hK37 _ _ <| wpIn_ret <| then_ret ?_
  refine retTA hS Tryd.results33 (by kernel_rfl) (by kernel_rfl) rfl rfl hB42 ?_
  exact ⟨z16, hZ16, .inl ⟨hb36, rfl⟩, hE44⟩
 ·
  replace hb36 := test_ne_f hb36
  have hok := hZ16.zero.2.1 hb36
  have hI := hok.ix
  have hlx := hok.lx
  refine wpIn_skip <| hK14 _ _ <| sq fun K45 hK45 => sdq 3 [.p, .run (I6 r.length), .p] [Rv (Builtin.len_ #[71] 3 #[rv]) (I6 r.length) w29] [(25, .bool (decide ((↑r.length : Int) > 16)))] [] hS (.c (rlr 61 hr) .nil) fun a hS => ?_
  refine cond_b hS rfl (fun hb47 => ?_) (fun hb47 => ?_)
  ·
   replace hb47 := of_decide_eq_true hb47
   have hfe : hdE S r ts = (2, 0) := if_pos (by omega)
   refine sq fun K48 hK48 => rgn 3 <| sd ww [.p, .p] [] [(26, .agg #[I6 2, I6 0, .string ⟨#[]⟩])] [] 2 1 hS .nil fun a hS => est 0 w2.heap.size 0 [I6 2, I6 0, .string ⟨#[]⟩] hS hB32 fun a w49 hw50 hS => ?_
   have hB52 : Blk w49 w2.heap.size 34 (#[I6 2, I6 0, .string ⟨#[]⟩]) := hB32.up hw50
   have hE54 := hE34.ui hw50 hs12
   refine sge hK48 <| wpIn_ret <| then_ret ?_
   refine retTA hS Tryd.results33 (by kernel_rfl) (by kernel_rfl) rfl rfl hB52 ?_
   exact ⟨z16, hZ16, .inr ⟨hb36, .inl ⟨by rw [hfe]; exact by simp, by rw [hfe]⟩⟩, hE54⟩
  ·
   replace hb47 := of_decide_eq_false hb47
   have hr16 : ¬16 < r.length := by omega
   refine wpIn_skip <| hK45 _ _ <| sq fun K55 hK55 => sdq 3 [.p, .run (I6 r.length), .p] [Rv (Builtin.len_ #[71] 3 #[rv]) (I6 r.length) w29] [(27, rv), (28, I6 r.length), (29, I6 0)] [] hS (.c (rlr 61 hr) .nil) fun a hS => wpIn_block ?_
   have hbl57 := (hb.trans0 hE34)
   refine loop_ghost (fun (k : Nat) a' w' => St 96 [] [(1, rv), (2, nv), (3, (Pv w.heap.size)), (7, (Pv w2.heap.size)), (27, rv), (28, I6 r.length), (29, I6 k)] a' ∧ Ext [] w29 w' ∧ k ≤ r.length ∧ symsE S r 0 = symsE S (r.drop k) k) (fun (k : Nat) => r.length - k) 0 ⟨hS.keepTo [1, 2, 3, 7, 27, 28, 29] (by kernel_rfl), Ext.refl _ _, by omega, rfl⟩ ?_
   rintro k a wl57 ⟨hS, hXl57, hk, hsy⟩
   have hB58 := hB31.ext hXl57 (by simp)
   have hB59 := hB32.ext hXl57 (by simp)
   refine sdq 1 [.p] [] [(30, .bool (decide ((↑k : Int) < ↑r.length)))] [] hS .nil fun a hS => sq fun K62 hK62 => ?_
   refine cond_b hS rfl (fun hb63 => ?_) (fun hb63 => ?_)
   ·
    replace hb63 := of_decide_eq_true hb63
    obtain ⟨x, hxk⟩ : ∃ x, r[k]? = some x := gE
    have hst := hsy
    rw [symsE_step hxk] at hst
    refine wpIn_skip <| hK62 _ _ <| sq fun K64 hK64 => wpIn_block <| sq fun K65 hK65 => rgn 6 <| sd ww [.p, .run ((Po (bof rv) (oof rv + k * 2))), .lds [I6 x.1, I6 x.2]] [Rv (Instr.indexAt 71 (rv) (I6 k)) ((Po (bof rv) (oof rv + k * 2))) wl57, wl57.cell? ⟨bof rv, oof rv + k * 2, none⟩ = some (I6 x.1), wl57.cell? ⟨bof rv, oof rv + k * 2 + 1, none⟩ = some (I6 x.2)] [(31, I6 k), (33, .agg #[I6 x.1, I6 x.2])] [] 3 3 hS (.c (ixr 61 k hr) (.c ((hr.ext0 (hbl57.trans0 hXl57)).cellAt (k * 2 + 0) (by omega) (ycells_at r k 0 x hxk (by omega))) (.c ((hr.ext0 (hbl57.trans0 hXl57)).cellAt (k * 2 + 1) (by omega) (ycells_at r k 1 x hxk (by omega))) .nil))) fun a hS => ebx 2 #[I6 0, I6 0] 61 (some 10) hS fun a w66 hw67 hS => ?_
    have hn68 := Nat.ne_of_lt hB58.lt
    have hn69 := Nat.ne_of_lt hB59.lt
    have hB71 := Blk.at' hw67 (hB58.alloc _)
    have hB72 := Blk.at' hw67 (hB59.alloc _)
    have hB74 := Blk.nw hw67
    have hs75 := hXl57.size
    have hE76 := hXl57.al hw67
    refine sd ww [.p] [] [(9, I6 k)] [] 5 1 hS .nil fun a hS => est 0 wl57.heap.size 0 [I6 x.1, I6 x.2] hS hB74 fun a w77 hw78 hS => ?_
    have hB79 := Blk.at' hw78 (hB71.updNe (Ne.symm hn68) _ _)
    have hB80 := Blk.at' hw78 (hB72.updNe (Ne.symm hn69) _ _)
    have hB82 : Blk w77 wl57.heap.size 61 (#[I6 x.1, I6 x.2]) := hB74.up hw78
    have hE83 := hE76.ui hw78 hs75
    refine sge hK65 <| sq fun K84 hK84 => rgn 4 <| sd ww [.lds [S.lv, S.nv, I6 S.st, S.pv], .lds [I6 x.1, I6 x.2]] [_, _, _, _, _, _] [(34, .agg S.ca), (35, .agg #[I6 x.1, I6 x.2])] [] 2 2 hS (hB79.k 0 (hB79.k 1 (hB79.k 2 (hB79.k 3 (hB82.k 0 (hB82.k 1 .nil)))))) fun a hS => ecl 1 (some 36) hS Tryd.call72 #[.agg S.ca, .agg #[I6 x.1, I6 x.2]] (symbol_any hG (hbl57.trans0 hE83) x) ?_
    rintro _ wc85 ⟨rfl, hEc85⟩
    refine ⟨_, rfl, fun a hS => ?_⟩
    have hB87 := hB80.ext hEc85 (by simp)
    have hE90 := hE83.trans0 hEc85
    refine sd ww [.p] [] [(11, I6 (symE S x))] [] 4 0 hS .nil fun a hS => sge hK84 <| sdq 2 [.p, .p] [] [(38, .bool ((symE S x : Int) != 0))] [] hS .nil fun a hS => ?_
    refine cond_b hS rfl (fun hb92 => ?_) (fun hb92 => ?_)
    ·
     replace hb92 := test_ne_t hb92
     have hEl57 : Ext [] w wc85 := hE34.trans0 hE90
     have hse : symE S x ≠ 0 := by omega
     rw [if_pos hse] at hst
     have hfe : hdE S r ts = (symE S x, (k : Int)) := by unfold hdE; rw [if_neg hr16, hst, if_pos hse]
     refine sq fun K93 hK93 => rgn 5 <| sg ww [.p, .p, .p, .p] [] [(1, rv), (2, nv), (3, (Pv w.heap.size)), (7, (Pv w2.heap.size)), (27, rv), (28, I6 r.length), (29, I6 k), (10, (Pv wl57.heap.size)), (9, I6 k), (11, I6 (symE S x)), (41, .agg #[I6 (symE S x), I6 k, .string ⟨#[]⟩]), (6, .slice none 0 0)] 4 1 hS .nil fun a hS => est 0 w2.heap.size 0 [I6 (symE S x), I6 k, .string ⟨#[]⟩] hS hB87 fun a w94 hw95 hS => ?_
     have hB97 : Blk w94 w2.heap.size 34 (#[I6 (symE S x), I6 k, .string ⟨#[]⟩]) := hB87.up hw95
     have hE100 := hEl57.ui hw95 hs12
     refine sge hK93 <| wpIn_ret <| inBlock_ret <| then_ret <| then_ret <| inBlock_ret <| then_ret ?_
     refine retTA hS Tryd.results33 (by kernel_rfl) (by kernel_rfl) rfl rfl hB97 ?_
     exact ⟨z16, hZ16, .inr ⟨hb36, .inl ⟨by rw [hfe]; exact hse, by rw [hfe]⟩⟩, hE100⟩
    ·
     replace hb92 := test_ne_f hb92
     refine wpIn_skip <| inBlock_normal <| hK64 _ _ <| rgn 2 <| sg ww [.as (I6 (↑k + 1)), .p] [_] [(1, rv), (2, nv), (3, (Pv w.heap.size)), (7, (Pv w2.heap.size)), (27, rv), (28, I6 r.length), (29, I6 (↑k + 1)), (30, .bool (decide ((↑k : Int) < ↑r.length))), (10, (Pv wl57.heap.size)), (9, I6 k), (11, I6 (symE S x)), (38, .bool ((symE S x : Int) != 0))] 2 0 hS (as6 (↑k + 1)) fun a hS => seg_end ?_
     exact ⟨k + 1, ⟨hS.kp [(1, rv), (2, nv), (3, (Pv w.heap.size)), (7, (Pv w2.heap.size)), (27, rv), (28, I6 r.length), (29, I6 (↑k + 1))], hE90, by omega, by rw [hst, if_neg (by omega)]⟩, by omega⟩
   ·
    replace hb63 := of_decide_eq_false hb63
    have hEl57 : Ext [] w wl57 := hE34.trans0 hXl57
    rw [List.drop_eq_nil_of_le (by omega)] at hsy
    have hrk := (symsE_zero (S := S) (r := r) (i := 0) (by rw [hsy]; rfl)).2
    have hh0 : hdE S r ts = termsE S ts 0 := by unfold hdE; rw [if_neg hr16, hsy, if_neg (by simp [symsE])]
    refine xt2 <| hK55 _ _ <| sq fun K101 hK101 => rgn 1 <| ebx 0 #[.int .u64 0, .int .u64 0] 110 (some 12) hS fun a w102 hw103 hS => ?_
    have hn104 := Nat.ne_of_lt hB58.lt
    have hn105 := Nat.ne_of_lt hB59.lt
    have hB107 := Blk.at' hw103 (hB58.alloc _)
    have hB108 := Blk.at' hw103 (hB59.alloc _)
    have hB110 := Blk.nw hw103
    have hs111 := hEl57.size
    have hE112 := hEl57.al hw103
    refine sge hK101 <| sq fun K113 hK113 => sdq 3 [.p, .run (I6 nn), .p] [Rv (Builtin.len_ #[51] 3 #[nv]) (I6 nn) w102] [(43, nv), (44, I6 nn), (45, I6 0)] [] hS (.c (rlr 3 hn) .nil) fun a hS => wpIn_block ?_
    have hbl115 := (hb.trans0 hE112)
    refine loop_ghost (fun ((k, acc) : Nat × Se) a' w' => St 96 [] [(1, rv), (3, (Pv w.heap.size)), (7, (Pv w2.heap.size)), (12, (Pv wl57.heap.size)), (43, nv), (44, I6 nn), (45, I6 k)] a' ∧ Ext [wl57.heap.size] w102 w' ∧ k ≤ nn ∧ Blk w' (wl57.heap.size) 110 #[.int .u64 (acc.1 : Int), .int .u64 (acc.2 : Int)] ∧ termsE S ts 0 = termsE S (ts.drop k) k ∧ NxS (ts.take k) acc) (fun ((k, acc) : Nat × Se) => nn - k) (0, (0, 0)) ⟨hS.keepTo [1, 3, 7, 12, 43, 44, 45] (by kernel_rfl), Ext.refl _ _, by omega, hB110, rfl, NxS.start⟩ ?_
    rintro ⟨k, acc⟩ a wl115 ⟨hS, hXl115, hk, hout, hte, hNx⟩
    have hB116 := hB107.ext hXl115 (by simpa using hn104)
    have hB117 := hB108.ext hXl115 (by simpa using hn105)
    refine sdq 1 [.p] [] [(46, .bool (decide ((↑k : Int) < ↑nn)))] [] hS .nil fun a hS => sq fun K120 hK120 => ?_
    refine cond_b hS rfl (fun hb121 => ?_) (fun hb121 => ?_)
    ·
     replace hb121 := of_decide_eq_true hb121
     obtain ⟨z, hzk⟩ : ∃ z, ts[k]? = some z := gE
     have hst := hte
     rw [termsE_step hzk] at hst
     refine wpIn_skip <| hK120 _ _ <| sq fun K122 hK122 => wpIn_block <| sdq 5 [.p, .run ((Po (bof nv) (oof nv + k * 1))), .ld (I6 z), .p, .p] [Rv (Instr.indexAt 51 (nv) (I6 k)) ((Po (bof nv) (oof nv + k * 1))) wl115, wl115.cell? ⟨bof nv, oof nv + k * 1, none⟩ = some (I6 z)] [(13, I6 k), (14, I6 z)] [] hS (.c (ixr 3 k hn) (.c ((hn.ext0 (hbl115.trans hXl115 (fun b hbM => by simp at hbM; rw [hbM]; exact .inr (Nat.le_trans hb.size hs111)))).cellAt (k * 1) (by omega) (its_at hzk)) .nil)) fun a hS => sq fun K124 hK124 => sq fun K125 hK125 => ?_
     rcases (show (z < 0) ∨ ((S.lx.length : Int) + 1 < z) ∨ (0 ≤ z ∧ z < S.lx.length) ∨ (z = S.lx.length ∨ z = (S.lx.length : Int) + 1) from by omega) with h0 | h0 | h0 | h0
     ·
      refine rgn 25 <| sd ww [.p, .as (.bool true), .p, .no, .no, .no, .no, .no, .no, .p, .p, .no, .no, .no, .no, .no, .no, .no, .no, .no, .no, .no, .no, .no, .p] [Value.bool (decide ((z : Int) < 0)) = .bool true] [(74, .bool true)] [] 25 0 hS (.c (as_t (by omega)) .nil) fun a hS => sge hK125 ?_
      refine cond_t hS rfl ?_
      refine sq fun K126 hK126 => ?_
      have hEl115 : Ext [] w wl115 := hE112.t1 hXl115 hs111
      have hnt : ¬isTm S z := by unfold isTm; omega
      have hfe : hdE S r ts = (74, (k : Int)) := by rw [hh0, hst, if_neg hnt]
      refine rgn 4 <| sd ww [.p, .p, .p] [] [(76, .agg #[I6 74, I6 k, .string ⟨#[]⟩]), (6, .slice none 0 0)] [] 3 1 hS .nil fun a hS => est 0 w2.heap.size 0 [I6 74, I6 k, .string ⟨#[]⟩] hS hB117 fun a w127 hw128 hS => ?_
      have hB130 : Blk w127 w2.heap.size 34 (#[I6 74, I6 k, .string ⟨#[]⟩]) := hB117.up hw128
      have hE133 := hEl115.ui hw128 hs12
      refine sge hK126 <| wpIn_ret <| then_ret <| inBlock_ret <| then_ret <| then_ret <| inBlock_ret <| then_ret ?_
      refine retTA hS Tryd.results33 (by kernel_rfl) (by kernel_rfl) rfl rfl hB130 ?_
      exact ⟨z16, hZ16, .inr ⟨hb36, .inl ⟨by rw [hfe]; exact by simp, by rw [hfe]⟩⟩, hE133⟩
     ·
      refine rgn 25 <| sd ww [.p, .as (.bool false), .p, .p, .p, .ld (S.lv), .run (I6 S.lx.length), .as (I6 ((S.lx.length + 1 : Nat) : Int)), .as (.bool true), .p, .p, .no, .no, .no, .no, .no, .no, .no, .no, .no, .no, .no, .no, .no, .p] [Value.bool (decide ((z : Int) < 0)) = .bool false, _, Rv (Builtin.len_ #[22] 3 #[S.lv]) (I6 S.lx.length) wl115, Value.int .i64 (IntKind.i64.wrap (↑S.lx.length + 1)) = I6 ((S.lx.length + 1 : Nat) : Int), Value.bool (decide ((z : Int) > ((S.lx.length + 1 : Nat) : Int))) = .bool true] [(74, .bool true)] [] 25 0 hS (.c (as_f (by omega)) (hB116.k 0 (.c (rlr 100 hG.lex) (.c ((by rw [show (↑S.lx.length + 1 : Int) = ((S.lx.length + 1 : Nat) : Int) from by omega]; exact as_i64 (by omega))) (.c (as_t (by omega)) .nil))))) fun a hS => sge hK125 ?_
      refine cond_t hS rfl ?_
      refine sq fun K134 hK134 => ?_
      have hEl115 : Ext [] w wl115 := hE112.t1 hXl115 hs111
      have hnt : ¬isTm S z := by unfold isTm; omega
      have hfe : hdE S r ts = (74, (k : Int)) := by rw [hh0, hst, if_neg hnt]
      refine rgn 4 <| sd ww [.p, .p, .p] [] [(76, .agg #[I6 74, I6 k, .string ⟨#[]⟩]), (6, .slice none 0 0)] [] 3 1 hS .nil fun a hS => est 0 w2.heap.size 0 [I6 74, I6 k, .string ⟨#[]⟩] hS hB117 fun a w135 hw136 hS => ?_
      have hB138 : Blk w135 w2.heap.size 34 (#[I6 74, I6 k, .string ⟨#[]⟩]) := hB117.up hw136
      have hE141 := hEl115.ui hw136 hs12
      refine sge hK134 <| wpIn_ret <| then_ret <| inBlock_ret <| then_ret <| then_ret <| inBlock_ret <| then_ret ?_
      refine retTA hS Tryd.results33 (by kernel_rfl) (by kernel_rfl) rfl rfl hB138 ?_
      exact ⟨z16, hZ16, .inr ⟨hb36, .inl ⟨by rw [hfe]; exact by simp, by rw [hfe]⟩⟩, hE141⟩
     ·
      obtain ⟨lr, hlr⟩ : ∃ lr, S.lx[z.toNat]? = some lr := gE
      refine rgn 25 <| sd ww [.p, .as (.bool false), .p, .p, .p, .ld (S.lv), .run (I6 S.lx.length), .as (I6 ((S.lx.length + 1 : Nat) : Int)), .as (.bool false), .p, .p, .p, .p, .ld (S.lv), .run (I6 S.lx.length), .as (.bool true), .p, .p, .ld (S.lv), .p, .run ((Po (bof S.lv) (oof S.lv + z.toNat * 8))), .p, .ld (.bool lr.tr), .p, .p] [Value.bool (decide ((z : Int) < 0)) = .bool false, _, Rv (Builtin.len_ #[22] 3 #[S.lv]) (I6 S.lx.length) wl115, Value.int .i64 (IntKind.i64.wrap (↑S.lx.length + 1)) = I6 ((S.lx.length + 1 : Nat) : Int), Value.bool (decide ((z : Int) > ((S.lx.length + 1 : Nat) : Int))) = .bool false, _, Rv (Builtin.len_ #[22] 3 #[S.lv]) (I6 S.lx.length) wl115, Value.bool (decide ((z : Int) < ↑S.lx.length)) = .bool true, _, Rv (Instr.indexAt 22 (S.lv) (I6 z)) ((Po (bof S.lv) (oof S.lv + z.toNat * 8))) wl115, wl115.cell? ⟨bof S.lv, oof S.lv + z.toNat * 8 + 1, none⟩ = some (.bool lr.tr)] [(74, .bool lr.tr)] [] 25 0 hS (.c (as_f (by omega)) (hB116.k 0 (.c (rlr 100 hG.lex) (.c ((by rw [show (↑S.lx.length + 1 : Int) = ((S.lx.length + 1 : Nat) : Int) from by omega]; exact as_i64 (by omega))) (.c (as_f (by omega)) (hB116.k 0 (.c (rlr 100 hG.lex) (.c (as_t (by omega)) (hB116.k 0 (.c (ix_rd (e := 100) (j := z.toNat) hG.lex (by kernel_rfl) (by kernel_rfl) (Int.toNat_of_nonneg (by omega)).symm (by omega)) (.c ((hG.lex.ext0 (hbl115.trans hXl115 (fun b hbM => by simp at hbM; rw [hbM]; exact .inr (Nat.le_trans hb.size hs111)))).cellAt (z.toNat * 8 + 1) (by omega) (lcells_at S.lx z.toNat 1 lr hlr (by omega))) .nil))))))))))) fun a hS => sge hK125 ?_
      refine cond_b hS rfl (fun hb142 => ?_) (fun hb142 => ?_)
      ·
       replace hb142 := hb142
       have hEl115 : Ext [] w wl115 := hE112.t1 hXl115 hs111
       have hnt : ¬isTm S z := by
        unfold isTm
        rintro (h | h | ⟨_, _, h⟩)
        ·omega
        ·omega
        ·exact h (by rw [hlr]; simp [hb142])
       have hfe : hdE S r ts = (74, (k : Int)) := by rw [hh0, hst, if_neg hnt]
       refine sq fun K143 hK143 => rgn 4 <| sd ww [.p, .p, .p] [] [(76, .agg #[I6 74, I6 k, .string ⟨#[]⟩]), (6, .slice none 0 0)] [] 3 1 hS .nil fun a hS => est 0 w2.heap.size 0 [I6 74, I6 k, .string ⟨#[]⟩] hS hB117 fun a w144 hw145 hS => ?_
       have hB147 : Blk w144 w2.heap.size 34 (#[I6 74, I6 k, .string ⟨#[]⟩]) := hB117.up hw145
       have hE150 := hEl115.ui hw145 hs12
       refine sge hK143 <| wpIn_ret <| then_ret <| inBlock_ret <| then_ret <| then_ret <| inBlock_ret <| then_ret ?_
       refine retTA hS Tryd.results33 (by kernel_rfl) (by kernel_rfl) rfl rfl hB147 ?_
       exact ⟨z16, hZ16, .inr ⟨hb36, .inl ⟨by rw [hfe]; exact by simp, by rw [hfe]⟩⟩, hE150⟩
      ·
       replace hb142 := hb142
       have htm : isTm S z := .inr (.inr ⟨by omega, by omega, by rw [hlr]; simp [hb142]⟩)
       have ⟨hz0, hz1⟩ := htm.lt hlx
       refine wpIn_skip <| hK124 _ _ ?_
       refine gh3 (G := World × World) [.q (.lds [.int .u64 (acc.1 : Int), .int .u64 (acc.2 : Int)]), .q .p, .e, .e, .e] [0, 0, 0, 1, 2] [1, 0, 0, 1, 2] [0, 0, 2, 7, 15] [2, 3, 4] [(2, 0), (3, 1), (4, 2)] 3 (fun ⟨wc151, wc152⟩ => ([(1, rv), (3, (Pv w.heap.size)), (7, (Pv w2.heap.size)), (12, (Pv wl57.heap.size)), (43, nv), (44, I6 nn), (45, I6 k), (46, .bool (decide ((↑k : Int) < ↑nn))), (13, I6 k), (14, I6 z), (74, .bool lr.tr), (77, .agg #[.int .u64 (acc.1 : Int), .int .u64 (acc.2 : Int)]), (78, I6 z), (79, .agg #[.int .u64 ((sgl z.toNat).1 : Int), .int .u64 ((sgl z.toNat).2 : Int)]), (80, .agg #[.int .u64 ((un acc (sgl z.toNat)).1 : Int), .int .u64 ((un acc (sgl z.toNat)).2 : Int)])] : Fm)) (fun ⟨wc151, wc152⟩ => [wl115.drew, wc151, wc152, upd (wc152) (wl57.heap.size) 110 #[.int .u64 ((un acc (sgl z.toNat)).1 : Int), .int .u64 ((un acc (sgl z.toNat)).2 : Int)]]) (wl115.drew) (fun e ⟨wc151, wc152⟩ => hAt [True, (Ext [] wl115.drew wc151) ∧ True, (Ext [] wl115.drew wc151) ∧ (Ext [] wc151 wc152) ∧ True, (Ext [] wl115.drew wc151) ∧ (Ext [] wc151 wc152) ∧ True] e) (fun ⟨wc151, wc152⟩ w' => [(0, [w'.cell? ⟨wl57.heap.size, 0, none⟩ = some (.int .u64 (acc.1 : Int)), w'.cell? ⟨wl57.heap.size, 1, none⟩ = some (.int .u64 (acc.2 : Int))])]) (wl115.drew, w) [1, 3, 7, 12, 43, 44, 45, 46, 13, 14, 74] [] hS (fun ⟨wc151, wc152⟩ _ => by kernel_rfl) trivial ?_ ?_ ?_
       ·rintro e ⟨wc151, wc152⟩ w' hw hH
        refine (.c ?_ .nil)
        ·intro h1 h2
         replace h1 : 0 ≤ e := h1
         replace h2 : e ≤ 1 := h2
         have he : e = 0 ∨ e = 1 := by omega
         rcases he with rfl | rfl
         ·have hwe : wl115.drew = w' := hwz hw
          subst hwe
          clear hH
          exact (.c ((hout.drew : Blk wl115.drew wl57.heap.size 110 (#[.int .u64 (acc.1 : Int), .int .u64 (acc.2 : Int)])).cell 0 rfl) (.c ((hout.drew : Blk wl115.drew wl57.heap.size 110 (#[.int .u64 (acc.1 : Int), .int .u64 (acc.2 : Int)])).cell 1 rfl) .nil))
         ·have hwe : wc151 = w' := hwz hw
          subst hwe
          obtain ⟨hEc151, _⟩ := hH
          exact (.c (((hout.drew : Blk wl115.drew wl57.heap.size 110 (#[.int .u64 (acc.1 : Int), .int .u64 (acc.2 : Int)])).ext hEc151 (by simp) : Blk wc151 wl57.heap.size 110 (#[.int .u64 (acc.1 : Int), .int .u64 (acc.2 : Int)])).cell 0 rfl) (.c (((hout.drew : Blk wl115.drew wl57.heap.size 110 (#[.int .u64 (acc.1 : Int), .int .u64 (acc.2 : Int)])).ext hEc151 (by simp) : Blk wc151 wl57.heap.size 110 (#[.int .u64 (acc.1 : Int), .int .u64 (acc.2 : Int)])).cell 1 rfl) .nil))
       ·refine (.c ?eq153_2 (.c ?eq153_3 (.c ?eq153_4 .nil)))
        ·rintro ⟨wc151, wc152⟩ hH
         clear hH
         refine eff_gh (wl115.drew) (by kernel_rfl) ?_
         refine upon_call (f := 55) (vs := [I6 z]) (cap := #[]) (d := (some 79)) (by kernel_rfl) Tryd.call55 #[I6 z] (by kernel_rfl) (one_any z hz0 hz1) ?_
         rintro _ wc151 ⟨rfl, hEc151⟩
         exact ⟨_, rfl, ⟨(wc151, wc152), by kernel_rfl, by kernel_rfl, by kernel_rfl, ⟨hEc151, trivial⟩⟩⟩
        ·rintro ⟨wc151, wc152⟩ hH
         obtain ⟨hEc151, _⟩ := hH
         refine eff_gh (wc151) (by kernel_rfl) ?_
         refine upon_call (f := 59) (vs := [.agg #[.int .u64 (acc.1 : Int), .int .u64 (acc.2 : Int)], .agg #[.int .u64 ((sgl z.toNat).1 : Int), .int .u64 ((sgl z.toNat).2 : Int)]]) (cap := #[]) (d := (some 80)) (by kernel_rfl) Tryd.call59 #[.agg #[.int .u64 (acc.1 : Int), .int .u64 (acc.2 : Int)], .agg #[.int .u64 ((sgl z.toNat).1 : Int), .int .u64 ((sgl z.toNat).2 : Int)]] (by kernel_rfl) (with_any acc (sgl z.toNat) hNx.ok (ok_sgl (by omega))) ?_
         rintro _ wc152 ⟨rfl, hEc152⟩
         exact ⟨_, rfl, ⟨(wc151, wc152), by kernel_rfl, by kernel_rfl, by kernel_rfl, ⟨hEc151, hEc152, trivial⟩⟩⟩
        ·rintro ⟨wc151, wc152⟩ hH
         obtain ⟨hEc151, hEc152, _⟩ := hH
         refine eff_gh (wc152) (by kernel_rfl) ?_
         exact upon_store (b := wl57.heap.size) (off := 0) (vs := [.int .u64 ((un acc (sgl z.toNat)).1 : Int), .int .u64 ((un acc (sgl z.toNat)).2 : Int)]) (by kernel_rfl) (((hout.drew : Blk wl115.drew wl57.heap.size 110 (#[.int .u64 (acc.1 : Int), .int .u64 (acc.2 : Int)])).ext hEc151 (by simp) : Blk wc151 wl57.heap.size 110 (#[.int .u64 (acc.1 : Int), .int .u64 (acc.2 : Int)])).ext hEc152 (by simp) : Blk wc152 wl57.heap.size 110 (#[.int .u64 (acc.1 : Int), .int .u64 (acc.2 : Int)])) (by simp) ⟨(wc151, wc152), by kernel_rfl, by kernel_rfl, by kernel_rfl, ⟨hEc151, hEc152, trivial⟩⟩
       rintro ⟨wc151, wc152⟩ a w154 hS hw155 hH
       obtain ⟨hEc151, hEc152, _⟩ := hH
       replace hw155 : w154 = upd (wc152) (wl57.heap.size) 110 #[.int .u64 ((un acc (sgl z.toNat)).1 : Int), .int .u64 ((un acc (sgl z.toNat)).2 : Int)] := hw155.trans (by kernel_rfl)
       have hB159 : Blk w154 wl57.heap.size 110 (#[.int .u64 ((un acc (sgl z.toNat)).1 : Int), .int .u64 ((un acc (sgl z.toNat)).2 : Int)]) := by rw [hw155]; exact (((hout.drew : Blk wl115.drew wl57.heap.size 110 (#[.int .u64 (acc.1 : Int), .int .u64 (acc.2 : Int)])).ext hEc151 (by simp) : Blk wc151 wl57.heap.size 110 (#[.int .u64 (acc.1 : Int), .int .u64 (acc.2 : Int)])).ext hEc152 (by simp)).upd _ _
       have hE160 : Ext [wl57.heap.size] w102 w154 := by rw [hw155]; exact (((hXl115.drew).trans0 hEc151).trans0 hEc152).updIn (.inl (by simp)) _ _
       replace hS := hS.kp [(1, rv), (3, (Pv w.heap.size)), (7, (Pv w2.heap.size)), (12, (Pv wl57.heap.size)), (43, nv), (44, I6 nn), (45, I6 k), (46, .bool (decide ((↑k : Int) < ↑nn))), (13, I6 k), (14, I6 z), (74, .bool lr.tr)]
       refine inBlock_normal <| hK122 _ _ <| rgn 2 <| sd ww [.as (I6 (↑k + 1)), .p] [_] [(45, I6 (↑k + 1))] [] 2 0 hS (as6 (↑k + 1)) fun a hS => seg_end ?_
       exact ⟨(k + 1, (un acc (sgl z.toNat))), ⟨hS.kp [(1, rv), (3, (Pv w.heap.size)), (7, (Pv w2.heap.size)), (12, (Pv wl57.heap.size)), (43, nv), (44, I6 nn), (45, I6 (↑k + 1))], hE160, by omega, hB159, by rw [hst, if_pos htm], by rw [List.take_add_one, hzk]; exact hNx.step hz0 hz1⟩, by simp only; omega⟩
     ·
      refine rgn 25 <| sd ww [.p, .as (.bool false), .p, .p, .p, .ld (S.lv), .run (I6 S.lx.length), .as (I6 ((S.lx.length + 1 : Nat) : Int)), .as (.bool false), .p, .p, .p, .p, .ld (S.lv), .run (I6 S.lx.length), .as (.bool false), .p, .no, .no, .no, .no, .no, .no, .p, .p] [Value.bool (decide ((z : Int) < 0)) = .bool false, _, Rv (Builtin.len_ #[22] 3 #[S.lv]) (I6 S.lx.length) wl115, Value.int .i64 (IntKind.i64.wrap (↑S.lx.length + 1)) = I6 ((S.lx.length + 1 : Nat) : Int), Value.bool (decide ((z : Int) > ((S.lx.length + 1 : Nat) : Int))) = .bool false, _, Rv (Builtin.len_ #[22] 3 #[S.lv]) (I6 S.lx.length) wl115, Value.bool (decide ((z : Int) < ↑S.lx.length)) = .bool false] [(74, .bool false)] [] 25 0 hS (.c (as_f (by omega)) (hB116.k 0 (.c (rlr 100 hG.lex) (.c ((by rw [show (↑S.lx.length + 1 : Int) = ((S.lx.length + 1 : Nat) : Int) from by omega]; exact as_i64 (by omega))) (.c (as_f (by omega)) (hB116.k 0 (.c (rlr 100 hG.lex) (.c (as_f (by omega)) .nil)))))))) fun a hS => sge hK125 ?_
      refine cond_f hS rfl ?_
      refine wpIn_skip <| hK124 _ _ ?_
      have htm : isTm S z := by unfold isTm; omega
      have ⟨hz0, hz1⟩ := htm.lt hlx
      refine gh3 (G := World × World) [.q (.lds [.int .u64 (acc.1 : Int), .int .u64 (acc.2 : Int)]), .q .p, .e, .e, .e] [0, 0, 0, 1, 2] [1, 0, 0, 1, 2] [0, 0, 2, 7, 15] [2, 3, 4] [(2, 0), (3, 1), (4, 2)] 3 (fun ⟨wc161, wc162⟩ => ([(1, rv), (3, (Pv w.heap.size)), (7, (Pv w2.heap.size)), (12, (Pv wl57.heap.size)), (43, nv), (44, I6 nn), (45, I6 k), (46, .bool (decide ((↑k : Int) < ↑nn))), (13, I6 k), (14, I6 z), (74, .bool false), (77, .agg #[.int .u64 (acc.1 : Int), .int .u64 (acc.2 : Int)]), (78, I6 z), (79, .agg #[.int .u64 ((sgl z.toNat).1 : Int), .int .u64 ((sgl z.toNat).2 : Int)]), (80, .agg #[.int .u64 ((un acc (sgl z.toNat)).1 : Int), .int .u64 ((un acc (sgl z.toNat)).2 : Int)])] : Fm)) (fun ⟨wc161, wc162⟩ => [wl115.drew, wc161, wc162, upd (wc162) (wl57.heap.size) 110 #[.int .u64 ((un acc (sgl z.toNat)).1 : Int), .int .u64 ((un acc (sgl z.toNat)).2 : Int)]]) (wl115.drew) (fun e ⟨wc161, wc162⟩ => hAt [True, (Ext [] wl115.drew wc161) ∧ True, (Ext [] wl115.drew wc161) ∧ (Ext [] wc161 wc162) ∧ True, (Ext [] wl115.drew wc161) ∧ (Ext [] wc161 wc162) ∧ True] e) (fun ⟨wc161, wc162⟩ w' => [(0, [w'.cell? ⟨wl57.heap.size, 0, none⟩ = some (.int .u64 (acc.1 : Int)), w'.cell? ⟨wl57.heap.size, 1, none⟩ = some (.int .u64 (acc.2 : Int))])]) (wl115.drew, w) [1, 3, 7, 12, 43, 44, 45, 46, 13, 14, 74] [] hS (fun ⟨wc161, wc162⟩ _ => by kernel_rfl) trivial ?_ ?_ ?_
      ·rintro e ⟨wc161, wc162⟩ w' hw hH
       refine (.c ?_ .nil)
       ·intro h1 h2
        replace h1 : 0 ≤ e := h1
        replace h2 : e ≤ 1 := h2
        have he : e = 0 ∨ e = 1 := by omega
        rcases he with rfl | rfl
        ·have hwe : wl115.drew = w' := hwz hw
         subst hwe
         clear hH
         exact (.c ((hout.drew : Blk wl115.drew wl57.heap.size 110 (#[.int .u64 (acc.1 : Int), .int .u64 (acc.2 : Int)])).cell 0 rfl) (.c ((hout.drew : Blk wl115.drew wl57.heap.size 110 (#[.int .u64 (acc.1 : Int), .int .u64 (acc.2 : Int)])).cell 1 rfl) .nil))
        ·have hwe : wc161 = w' := hwz hw
         subst hwe
         obtain ⟨hEc161, _⟩ := hH
         exact (.c (((hout.drew : Blk wl115.drew wl57.heap.size 110 (#[.int .u64 (acc.1 : Int), .int .u64 (acc.2 : Int)])).ext hEc161 (by simp) : Blk wc161 wl57.heap.size 110 (#[.int .u64 (acc.1 : Int), .int .u64 (acc.2 : Int)])).cell 0 rfl) (.c (((hout.drew : Blk wl115.drew wl57.heap.size 110 (#[.int .u64 (acc.1 : Int), .int .u64 (acc.2 : Int)])).ext hEc161 (by simp) : Blk wc161 wl57.heap.size 110 (#[.int .u64 (acc.1 : Int), .int .u64 (acc.2 : Int)])).cell 1 rfl) .nil))
      ·refine (.c ?eq163_2 (.c ?eq163_3 (.c ?eq163_4 .nil)))
       ·rintro ⟨wc161, wc162⟩ hH
        clear hH
        refine eff_gh (wl115.drew) (by kernel_rfl) ?_
        refine upon_call (f := 55) (vs := [I6 z]) (cap := #[]) (d := (some 79)) (by kernel_rfl) Tryd.call55 #[I6 z] (by kernel_rfl) (one_any z hz0 hz1) ?_
        rintro _ wc161 ⟨rfl, hEc161⟩
        exact ⟨_, rfl, ⟨(wc161, wc162), by kernel_rfl, by kernel_rfl, by kernel_rfl, ⟨hEc161, trivial⟩⟩⟩
       ·rintro ⟨wc161, wc162⟩ hH
        obtain ⟨hEc161, _⟩ := hH
        refine eff_gh (wc161) (by kernel_rfl) ?_
        refine upon_call (f := 59) (vs := [.agg #[.int .u64 (acc.1 : Int), .int .u64 (acc.2 : Int)], .agg #[.int .u64 ((sgl z.toNat).1 : Int), .int .u64 ((sgl z.toNat).2 : Int)]]) (cap := #[]) (d := (some 80)) (by kernel_rfl) Tryd.call59 #[.agg #[.int .u64 (acc.1 : Int), .int .u64 (acc.2 : Int)], .agg #[.int .u64 ((sgl z.toNat).1 : Int), .int .u64 ((sgl z.toNat).2 : Int)]] (by kernel_rfl) (with_any acc (sgl z.toNat) hNx.ok (ok_sgl (by omega))) ?_
        rintro _ wc162 ⟨rfl, hEc162⟩
        exact ⟨_, rfl, ⟨(wc161, wc162), by kernel_rfl, by kernel_rfl, by kernel_rfl, ⟨hEc161, hEc162, trivial⟩⟩⟩
       ·rintro ⟨wc161, wc162⟩ hH
        obtain ⟨hEc161, hEc162, _⟩ := hH
        refine eff_gh (wc162) (by kernel_rfl) ?_
        exact upon_store (b := wl57.heap.size) (off := 0) (vs := [.int .u64 ((un acc (sgl z.toNat)).1 : Int), .int .u64 ((un acc (sgl z.toNat)).2 : Int)]) (by kernel_rfl) (((hout.drew : Blk wl115.drew wl57.heap.size 110 (#[.int .u64 (acc.1 : Int), .int .u64 (acc.2 : Int)])).ext hEc161 (by simp) : Blk wc161 wl57.heap.size 110 (#[.int .u64 (acc.1 : Int), .int .u64 (acc.2 : Int)])).ext hEc162 (by simp) : Blk wc162 wl57.heap.size 110 (#[.int .u64 (acc.1 : Int), .int .u64 (acc.2 : Int)])) (by simp) ⟨(wc161, wc162), by kernel_rfl, by kernel_rfl, by kernel_rfl, ⟨hEc161, hEc162, trivial⟩⟩
      rintro ⟨wc161, wc162⟩ a w164 hS hw165 hH
      obtain ⟨hEc161, hEc162, _⟩ := hH
      replace hw165 : w164 = upd (wc162) (wl57.heap.size) 110 #[.int .u64 ((un acc (sgl z.toNat)).1 : Int), .int .u64 ((un acc (sgl z.toNat)).2 : Int)] := hw165.trans (by kernel_rfl)
      have hB169 : Blk w164 wl57.heap.size 110 (#[.int .u64 ((un acc (sgl z.toNat)).1 : Int), .int .u64 ((un acc (sgl z.toNat)).2 : Int)]) := by rw [hw165]; exact (((hout.drew : Blk wl115.drew wl57.heap.size 110 (#[.int .u64 (acc.1 : Int), .int .u64 (acc.2 : Int)])).ext hEc161 (by simp) : Blk wc161 wl57.heap.size 110 (#[.int .u64 (acc.1 : Int), .int .u64 (acc.2 : Int)])).ext hEc162 (by simp)).upd _ _
      have hE170 : Ext [wl57.heap.size] w102 w164 := by rw [hw165]; exact (((hXl115.drew).trans0 hEc161).trans0 hEc162).updIn (.inl (by simp)) _ _
      replace hS := hS.kp [(1, rv), (3, (Pv w.heap.size)), (7, (Pv w2.heap.size)), (12, (Pv wl57.heap.size)), (43, nv), (44, I6 nn), (45, I6 k), (46, .bool (decide ((↑k : Int) < ↑nn))), (13, I6 k), (14, I6 z), (74, .bool false)]
      refine inBlock_normal <| hK122 _ _ <| rgn 2 <| sd ww [.as (I6 (↑k + 1)), .p] [_] [(45, I6 (↑k + 1))] [] 2 0 hS (as6 (↑k + 1)) fun a hS => seg_end ?_
      exact ⟨(k + 1, (un acc (sgl z.toNat))), ⟨hS.kp [(1, rv), (3, (Pv w.heap.size)), (7, (Pv w2.heap.size)), (12, (Pv wl57.heap.size)), (43, nv), (44, I6 nn), (45, I6 (↑k + 1))], hE170, by omega, hB169, by rw [hst, if_pos htm], by rw [List.take_add_one, hzk]; exact hNx.step hz0 hz1⟩, by simp only; omega⟩
    ·
     replace hb121 := of_decide_eq_false hb121
     have hEl115 : Ext [] w wl115 := hE112.t1 hXl115 hs111
     rw [List.drop_eq_nil_of_le (by omega)] at hte
     have hfe : hdE S r ts = (0, 0) := by rw [hh0, hte]; rfl
     rw [List.take_of_length_le (by omega)] at hNx
     refine xt2 <| hK113 _ _ <| sq fun K171 hK171 => rgn 10 <| sd ww [.lds [S.lv, S.nv, I6 S.st, S.pv]] [_, _, _, _] [(83, .agg S.ca)] [] 1 9 hS (hB116.k 0 (hB116.k 1 (hB116.k 2 (hB116.k 3 .nil)))) fun a hS => ecl 8 (some 84) hS Tryd.call54 #[.agg S.ca] (known_any hG (hb.trans0 hEl115) hI hlx) ?_
     rintro _ wc172 ⟨gb172, ge172, gf172, es172, fs172, rfl, hK172, hEc172⟩
     refine ⟨_, rfl, fun a hS => ?_⟩
     have hB174 := hB117.ext hEc172 (by simp)
     have hB176 := hout.ext hEc172 (by simp)
     have hE177 := hEl115.trans0 hEc172
     refine sd ww [.p] [] [(85, rv)] [] 3 7 hS .nil fun a hS => ecl 6 (some 86) hS Tryd.call58 #[(Pv gb172), rv] (heads_any hG (hb.trans0 hE177) hK172.gb hK172.re hK172.rf hK172.hes.len hK172.hs.len hK172.hs.ok hlx hr hrm hrk) ?_
     rintro _ wc178 ⟨rfl, hEc178⟩
     refine ⟨_, rfl, fun a hS => ?_⟩
     have hB180 := hB174.ext hEc178 (by simp)
     have hB182 := hB176.ext hEc178 (by simp)
     have hE186 := hE177.trans0 hEc178
     refine sd ww [.p, .p, .p] [] [(87, .agg #[.int .u64 (((hdS S.nl fs172 es172 (row r)).1).1 : Int), .int .u64 (((hdS S.nl fs172 es172 (row r)).1).2 : Int)]), (88, .bool ((hdS S.nl fs172 es172 (row r)).2))] [] 7 3 hS .nil fun a hS => ebx 2 #[.int .u64 0, .int .u64 0] 110 (some 15) hS fun a w187 hw188 hS => ?_
     have hn190 := Nat.ne_of_lt hB180.lt
     have hn192 := Nat.ne_of_lt hB182.lt
     have hB197 := Blk.at' hw188 (hB180.alloc _)
     have hB199 := Blk.at' hw188 (hB182.alloc _)
     have hB203 := Blk.nw hw188
     have hs204 := hE186.size
     have hE205 := hE186.al hw188
     refine est 1 wc178.heap.size 0 [.int .u64 (((hdS S.nl fs172 es172 (row r)).1).1 : Int), .int .u64 (((hdS S.nl fs172 es172 (row r)).1).2 : Int)] hS hB203 fun a w206 hw207 hS => ?_
     have hB209 := Blk.at' hw207 (hB197.updNe (Ne.symm hn190) _ _)
     have hB211 := Blk.at' hw207 (hB199.updNe (Ne.symm hn192) _ _)
     have hB215 : Blk w206 wc178.heap.size 110 (#[.int .u64 (((hdS S.nl fs172 es172 (row r)).1).1 : Int), .int .u64 (((hdS S.nl fs172 es172 (row r)).1).2 : Int)]) := hB203.up hw207
     have hE216 := hE205.ui hw207 hs204
     refine sd ww [.p] [] [(16, .bool ((hdS S.nl fs172 es172 (row r)).2))] [] 10 0 hS .nil fun a hS => sge hK171 <| sq fun K217 hK217 => sq fun K218 hK218 => ?_
     obtain ⟨hH, hHk⟩ := HdsR.of (r := r) hK172.hes hK172.hF hK172.hs.ok hlx hrk hNx
     refine rgn 1 <| sd ww [.p] [] [(89, .bool ((hdS S.nl fs172 es172 (row r)).2))] [] 1 0 hS .nil fun a hS => sge hK218 ?_
     refine cond_b hS rfl (fun hb219 => ?_) (fun hb219 => ?_)
     ·
      replace hb219 := hb219
      rw [if_pos hb219] at hH hHk
      refine rgn 4 <| sg ww [.lds [.int .u64 (((hdS S.nl fs172 es172 (row r)).1).1 : Int), .int .u64 (((hdS S.nl fs172 es172 (row r)).1).2 : Int)], .lds [.int .u64 (acc.1 : Int), .int .u64 (acc.2 : Int)]] [_, _, _, _] [(1, rv), (3, (Pv w.heap.size)), (7, (Pv w2.heap.size)), (12, (Pv wl57.heap.size)), (43, nv), (44, I6 nn), (45, I6 k), (15, (Pv wc178.heap.size)), (16, .bool ((hdS S.nl fs172 es172 (row r)).2)), (89, .bool ((hdS S.nl fs172 es172 (row r)).2)), (90, .agg #[.int .u64 (((hdS S.nl fs172 es172 (row r)).1).1 : Int), .int .u64 (((hdS S.nl fs172 es172 (row r)).1).2 : Int)]), (91, .agg #[.int .u64 (acc.1 : Int), .int .u64 (acc.2 : Int)])] 2 2 hS (hB215.k 0 (hB215.k 1 (hB211.k 0 (hB211.k 1 .nil)))) fun a hS => ecl 1 (some 92) hS Tryd.call59 #[.agg #[.int .u64 (((hdS S.nl fs172 es172 (row r)).1).1 : Int), .int .u64 (((hdS S.nl fs172 es172 (row r)).1).2 : Int)], .agg #[.int .u64 (acc.1 : Int), .int .u64 (acc.2 : Int)]] (with_any (hdS S.nl fs172 es172 (row r)).1 acc (hdS_ok hK172.hs.ok (Sml_of hlx hrk)) hNx.ok) ?_
      rintro _ wc220 ⟨rfl, hEc220⟩
      refine ⟨_, rfl, fun a hS => ?_⟩
      have hB222 := hB209.ext hEc220 (by simp)
      have hB228 := hB215.ext hEc220 (by simp)
      have hE229 := hE216.trans0 hEc220
      refine est 0 wc178.heap.size 0 [.int .u64 ((un (hdS S.nl fs172 es172 (row r)).1 acc).1 : Int), .int .u64 ((un (hdS S.nl fs172 es172 (row r)).1 acc).2 : Int)] hS hB228 fun a w230 hw231 hS => ?_
      have hB233 := Blk.at' hw231 (hB222.updNe (Ne.symm hn190) _ _)
      have hB239 : Blk w230 wc178.heap.size 110 (#[.int .u64 ((un (hdS S.nl fs172 es172 (row r)).1 acc).1 : Int), .int .u64 ((un (hdS S.nl fs172 es172 (row r)).1 acc).2 : Int)]) := hB228.up hw231
      have hE240 := hE229.ui hw231 hs204
      refine sge hK217 <| sq fun K241 hK241 => rgn 5 <| sd ww [.lds [.int .u64 ((un (hdS S.nl fs172 es172 (row r)).1 acc).1 : Int), .int .u64 ((un (hdS S.nl fs172 es172 (row r)).1 acc).2 : Int)]] [_, _] [(93, .agg #[.int .u64 ((un (hdS S.nl fs172 es172 (row r)).1 acc).1 : Int), .int .u64 ((un (hdS S.nl fs172 es172 (row r)).1 acc).2 : Int)])] [] 1 4 hS (hB239.k 0 (hB239.k 1 .nil)) fun a hS => ecl 3 (some 94) hS Tryd.call73 #[.agg #[.int .u64 ((un (hdS S.nl fs172 es172 (row r)).1 acc).1 : Int), .int .u64 ((un (hdS S.nl fs172 es172 (row r)).1 acc).2 : Int)]] (list_any (hT.ext0 (hb.trans0 hE240)) (un (hdS S.nl fs172 es172 (row r)).1 acc) hHk) ?_
      rintro _ wc242 ⟨b3242, n3242, c3242, rfl, hRn242, hEc242⟩
      refine ⟨_, rfl, fun a hS => ?_⟩
      have hB244 := hB233.ext hEc242 (by simp)
      have hE251 := hE240.trans0 hEc242
      refine sd ww [.p, .p] [] [(95, .agg #[I6 0, I6 0, .string ⟨#[]⟩]), (6, .slice b3242 n3242 c3242)] [] 4 1 hS .nil fun a hS => est 0 w2.heap.size 0 [I6 0, I6 0, .string ⟨#[]⟩] hS hB244 fun a w252 hw253 hS => ?_
      have hB255 : Blk w252 w2.heap.size 34 (#[I6 0, I6 0, .string ⟨#[]⟩]) := hB244.up hw253
      have hX262 : Ext [w2.heap.size] wc242 w252 := by rw [hw253]; exact (Ext.refl _ _).updIn (.inl (by simp)) _ _
      have hG263 : RowN w230.heap.size w252 b3242 n3242 c3242 (tls (un (hdS S.nl fs172 es172 (row r)).1 acc)) := ⟨hRn242.own.ext hX262 (fun x hx hm => by simp at hm; exact hRn242.own.ne hB244 (by decide) x hx hm.symm), hRn242.new⟩
      have hE264 := hE251.ui hw253 hs12
      refine sge hK241 <| wpIn_ret ?_
      refine retTA hS Tryd.results33 (by kernel_rfl) (by kernel_rfl) rfl rfl hB255 ?_
      exact ⟨z16, hZ16, .inr ⟨hb36, .inr ⟨by rw [hfe], _, _, _, _, rfl, hG263.mono hE240.size, hH⟩⟩, hE264⟩
     ·
      replace hb219 := hb219
      rw [if_neg (by rw [hb219]; simp)] at hH hHk
      refine wpIn_skip <| hK217 _ _ <| sq fun K265 hK265 => rgn 5 <| sg ww [.lds [.int .u64 (((hdS S.nl fs172 es172 (row r)).1).1 : Int), .int .u64 (((hdS S.nl fs172 es172 (row r)).1).2 : Int)]] [_, _] [(1, rv), (3, (Pv w.heap.size)), (7, (Pv w2.heap.size)), (12, (Pv wl57.heap.size)), (43, nv), (44, I6 nn), (45, I6 k), (15, (Pv wc178.heap.size)), (16, .bool ((hdS S.nl fs172 es172 (row r)).2)), (89, .bool ((hdS S.nl fs172 es172 (row r)).2)), (93, .agg #[.int .u64 (((hdS S.nl fs172 es172 (row r)).1).1 : Int), .int .u64 (((hdS S.nl fs172 es172 (row r)).1).2 : Int)])] 1 4 hS (hB215.k 0 (hB215.k 1 .nil)) fun a hS => ecl 3 (some 94) hS Tryd.call73 #[.agg #[.int .u64 (((hdS S.nl fs172 es172 (row r)).1).1 : Int), .int .u64 (((hdS S.nl fs172 es172 (row r)).1).2 : Int)]] (list_any (hT.ext0 (hb.trans0 hE216)) ((hdS S.nl fs172 es172 (row r)).1) hHk) ?_
      rintro _ wc266 ⟨b3266, n3266, c3266, rfl, hRn266, hEc266⟩
      refine ⟨_, rfl, fun a hS => ?_⟩
      have hB268 := hB209.ext hEc266 (by simp)
      have hE275 := hE216.trans0 hEc266
      refine sd ww [.p, .p] [] [(95, .agg #[I6 0, I6 0, .string ⟨#[]⟩]), (6, .slice b3266 n3266 c3266)] [] 4 1 hS .nil fun a hS => est 0 w2.heap.size 0 [I6 0, I6 0, .string ⟨#[]⟩] hS hB268 fun a w276 hw277 hS => ?_
      have hB279 : Blk w276 w2.heap.size 34 (#[I6 0, I6 0, .string ⟨#[]⟩]) := hB268.up hw277
      have hX286 : Ext [w2.heap.size] wc266 w276 := by rw [hw277]; exact (Ext.refl _ _).updIn (.inl (by simp)) _ _
      have hG287 : RowN w206.heap.size w276 b3266 n3266 c3266 (tls ((hdS S.nl fs172 es172 (row r)).1)) := ⟨hRn266.own.ext hX286 (fun x hx hm => by simp at hm; exact hRn266.own.ne hB268 (by decide) x hx hm.symm), hRn266.new⟩
      have hE288 := hE275.ui hw277 hs12
      refine sge hK265 <| wpIn_ret ?_
      refine retTA hS Tryd.results33 (by kernel_rfl) (by kernel_rfl) rfl rfl hB279 ?_
      exact ⟨z16, hZ16, .inr ⟨hb36, .inr ⟨by rw [hfe], _, _, _, _, rfl, hG287.mono hE216.size, hH⟩⟩, hE288⟩
end Go.Proofs.YtkkpghlcmcaoiaaDoor
