import Derived.Test.YtkkpghlcmcaoiaaDoorS4
import Derived.Test.YtkkpghlcmcaoiaaDoorS5
import Derived.Test.YtkkpghlcmcaoiaaDoorS6
import Derived.Test.YtkkpghlcmcaoiaaDoorSt4
namespace Go.Proofs.YtkkpghlcmcaoiaaDoor
open Go.Vc Go.Gm
theorem check_any {w0 w : World} {S : Sp} (hG : SpOk w0 S) (hb : Ext [] w0 w) :
  Calls Tryd.prog 36 #[.agg S.ca] w fun e w' => ∃ z : Int × Int, e = .returned (.agg #[I6 z.1, I6 z.2, .string ⟨#[]⟩]) ∧ ChkR S z ∧ Ext [] w w' := by
 have hlmax := hG.lmax
 have hnmax := hG.nmax
 have hpmax := hG.pmax
 refine cbd 53 [(0, .agg S.ca)] Tryd.func36 rfl fun a hS => ?_
 have hE0 : Ext [] w w := Ext.refl _ _
 refine sq fun K1 hK1 => rgn 2 <| ebx 1 S.ca 26 (some 1) hS fun a w2 hw3 hS => ?_
 have hB4 := Blk.nw hw3
 have hs5 := hE0.size
 have hE6 := hE0.al hw3
 refine ebx 0 #[I6 0, I6 0, .string ⟨#[]⟩] 34 (some 2) hS fun a w7 hw8 hS => ?_
 have hB10 := Blk.at' hw8 (hB4.alloc _)
 have hB11 := Blk.nw hw8
 have hs12 := hE6.size
 have hE13 := hE6.al hw8
 refine sge hK1 <| sq fun K14 hK14 => sq fun K15 hK15 => rgn 2 <| sd ww [.lds [S.lv, S.nv, I6 S.st, S.pv]] [_, _, _, _] [(9, .agg S.ca)] [] 1 1 hS (hB10.k 0 (hB10.k 1 (hB10.k 2 (hB10.k 3 .nil)))) fun a hS => ecl 0 (some 10) hS Tryd.call76 #[.agg S.ca] (long_any hG (hb.trans0 hE13)) ?_
 rintro _ wc16 ⟨rfl, hEc16⟩
 refine ⟨_, rfl, fun a hS => ?_⟩
 have hB17 := hB10.ext hEc16 (by simp)
 have hB18 := hB11.ext hEc16 (by simp)
 have hE19 := hE13.trans0 hEc16
 refine sge hK15 ?_
 refine cond_b hS rfl (fun hb20 => ?_) (fun hb20 => ?_)
 ·
  replace hb20 := of_decide_eq_true hb20
  refine sq fun K21 hK21 => rgn 2 <| sd ww [.p] [] [(11, .agg #[I6 2, I6 0, .string ⟨#[]⟩])] [] 1 1 hS .nil fun a hS => est 0 w2.heap.size 0 [I6 2, I6 0, .string ⟨#[]⟩] hS hB18 fun a w22 hw23 hS => ?_
  have hB25 : Blk w22 w2.heap.size 34 (#[I6 2, I6 0, .string ⟨#[]⟩]) := hB18.up hw23
  have hE26 := hE19.ui hw23 hs12
  refine sge hK21 <| wpIn_ret <| then_ret ?_
  refine retA1 hS Tryd.results36 (by kernel_rfl) (by kernel_rfl) rfl hB25 ?_
  exact ⟨(2, 0), rfl, .lng hb20, hE26⟩
 ·
  replace hb20 := of_decide_eq_false hb20
  have hlg := hb20
  refine wpIn_skip <| hK14 _ _ <| sq fun K27 hK27 => sq fun K28 hK28 => rgn 4 <| sd ww [.lds [S.lv, S.nv, I6 S.st, S.pv]] [_, _, _, _] [(12, .agg S.ca)] [] 1 3 hS (hB17.k 0 (hB17.k 1 (hB17.k 2 (hB17.k 3 .nil)))) fun a hS => ecl 2 (some 13) hS Tryd.call77 #[.agg S.ca] (indices_any hG (hb.trans0 hE19)) ?_
  rintro _ wc29 ⟨rfl, hEc29⟩
  refine ⟨_, rfl, fun a hS => ?_⟩
  have hB30 := hB17.ext hEc29 (by simp)
  have hB31 := hB18.ext hEc29 (by simp)
  have hE32 := hE19.trans0 hEc29
  refine ebx 1 #[I6 0, I6 0, .string ⟨#[]⟩] 34 (some 3) hS fun a w33 hw34 hS => ?_
  have hn35 := Nat.ne_of_lt hB30.lt
  have hn36 := Nat.ne_of_lt hB31.lt
  have hB37 := Blk.at' hw34 (hB30.alloc _)
  have hB38 := Blk.at' hw34 (hB31.alloc _)
  have hB39 := Blk.nw hw34
  have hs40 := hE32.size
  have hE41 := hE32.al hw34
  refine est 0 wc29.heap.size 0 [I6 ((inE S).1), I6 ((inE S).2), .string ⟨#[]⟩] hS hB39 fun a w42 hw43 hS => ?_
  have hB44 := Blk.at' hw43 (hB37.updNe (Ne.symm hn35) _ _)
  have hB45 := Blk.at' hw43 (hB38.updNe (Ne.symm hn36) _ _)
  have hB46 : Blk w42 wc29.heap.size 34 (#[I6 ((inE S).1), I6 ((inE S).2), .string ⟨#[]⟩]) := hB39.up hw43
  have hE47 := hE41.ui hw43 hs40
  refine sge hK28 <| sdq 3 [.p, .ld (I6 ((inE S).1)), .p] [_] [(16, .bool (((inE S).1 : Int) != 0))] [] hS (hB46.k 0 .nil) fun a hS => ?_
  refine cond_b hS rfl (fun hb49 => ?_) (fun hb49 => ?_)
  ·
   replace hb49 := test_ne_t hb49
   refine sq fun K50 hK50 => rgn 2 <| sd ww [.lds [I6 ((inE S).1), I6 ((inE S).2), .string ⟨#[]⟩]] [_, _, _] [(17, .agg #[I6 ((inE S).1), I6 ((inE S).2), .string ⟨#[]⟩])] [] 1 1 hS (hB46.k 0 (hB46.k 1 (hB46.k 2 .nil))) fun a hS => est 0 w2.heap.size 0 [I6 ((inE S).1), I6 ((inE S).2), .string ⟨#[]⟩] hS hB45 fun a w51 hw52 hS => ?_
   have hB54 : Blk w51 w2.heap.size 34 (#[I6 ((inE S).1), I6 ((inE S).2), .string ⟨#[]⟩]) := hB45.up hw52
   have hE56 := hE47.ui hw52 hs12
   refine sge hK50 <| wpIn_ret <| then_ret ?_
   refine retA1 hS Tryd.results36 (by kernel_rfl) (by kernel_rfl) rfl hB54 ?_
   exact ⟨inE S, rfl, .ix hlg hb49, hE56⟩
  ·
   replace hb49 := test_ne_f hb49
   have hI := inE_ok.1 hb49
   refine wpIn_skip <| hK27 _ _ <| sq fun K57 hK57 => sq fun K58 hK58 => rgn 4 <| sd ww [.lds [S.lv, S.nv, I6 S.st, S.pv]] [_, _, _, _] [(18, .agg S.ca)] [] 1 3 hS (hB44.k 0 (hB44.k 1 (hB44.k 2 (hB44.k 3 .nil)))) fun a hS => ecl 2 (some 19) hS Tryd.call78 #[.agg S.ca] (reached_any hG (hb.trans0 hE47) hI) ?_
   rintro _ wc59 ⟨x59, rfl, hR59, hEc59⟩
   refine ⟨_, rfl, fun a hS => ?_⟩
   have hB60 := hB44.ext hEc59 (by simp)
   have hB61 := hB45.ext hEc59 (by simp)
   have hE63 := hE47.trans0 hEc59
   refine ebx 1 #[I6 0, I6 0, .string ⟨#[]⟩] 34 (some 4) hS fun a w64 hw65 hS => ?_
   have hn66 := Nat.ne_of_lt hB60.lt
   have hn67 := Nat.ne_of_lt hB61.lt
   have hB69 := Blk.at' hw65 (hB60.alloc _)
   have hB70 := Blk.at' hw65 (hB61.alloc _)
   have hB72 := Blk.nw hw65
   have hs73 := hE63.size
   have hE74 := hE63.al hw65
   refine est 0 wc59.heap.size 0 [I6 ((rcE S x59).1), I6 ((rcE S x59).2), .string ⟨#[]⟩] hS hB72 fun a w75 hw76 hS => ?_
   have hB77 := Blk.at' hw76 (hB69.updNe (Ne.symm hn66) _ _)
   have hB78 := Blk.at' hw76 (hB70.updNe (Ne.symm hn67) _ _)
   have hB80 : Blk w75 wc59.heap.size 34 (#[I6 ((rcE S x59).1), I6 ((rcE S x59).2), .string ⟨#[]⟩]) := hB72.up hw76
   have hE81 := hE74.ui hw76 hs73
   refine sge hK58 <| sdq 3 [.p, .ld (I6 ((rcE S x59).1)), .p] [_] [(22, .bool (((rcE S x59).1 : Int) != 0))] [] hS (hB80.k 0 .nil) fun a hS => ?_
   refine cond_b hS rfl (fun hb83 => ?_) (fun hb83 => ?_)
   ·
    replace hb83 := test_ne_t hb83
    refine sq fun K84 hK84 => rgn 2 <| sd ww [.lds [I6 ((rcE S x59).1), I6 ((rcE S x59).2), .string ⟨#[]⟩]] [_, _, _] [(23, .agg #[I6 ((rcE S x59).1), I6 ((rcE S x59).2), .string ⟨#[]⟩])] [] 1 1 hS (hB80.k 0 (hB80.k 1 (hB80.k 2 .nil))) fun a hS => est 0 w2.heap.size 0 [I6 ((rcE S x59).1), I6 ((rcE S x59).2), .string ⟨#[]⟩] hS hB78 fun a w85 hw86 hS => ?_
    have hB88 : Blk w85 w2.heap.size 34 (#[I6 ((rcE S x59).1), I6 ((rcE S x59).2), .string ⟨#[]⟩]) := hB78.up hw86
    have hE91 := hE81.ui hw86 hs12
    refine sge hK84 <| wpIn_ret <| then_ret ?_
    refine retA1 hS Tryd.results36 (by kernel_rfl) (by kernel_rfl) rfl hB88 ?_
    exact ⟨rcE S x59, rfl, .rc hlg hI hR59 hb83, hE91⟩
   ·
    replace hb83 := test_ne_f hb83
    have hrz := hb83
    refine wpIn_skip <| hK57 _ _ <| sq fun K92 hK92 => sq fun K93 hK93 => rgn 4 <| sd ww [.lds [S.lv, S.nv, I6 S.st, S.pv]] [_, _, _, _] [(24, .agg S.ca)] [] 1 3 hS (hB77.k 0 (hB77.k 1 (hB77.k 2 (hB77.k 3 .nil)))) fun a hS => ecl 2 (some 25) hS Tryd.call80 #[.agg S.ca, .func (.func 81) #[] #[]] (madeT_any hG (hb.trans0 hE81) hI) ?_
    rintro _ wc94 ⟨g94, bs94, rfl, hO94, hD94, hgn94, hEc94⟩
    refine ⟨_, rfl, fun a hS => ?_⟩
    have hB95 := hB77.ext hEc94 (by simp)
    have hB96 := hB78.ext hEc94 (by simp)
    have hE99 := hE81.trans0 hEc94
    refine ecl 1 (some 26) hS Tryd.call79 #[Sn S g94, .bool false] (indexF_any hO94) ?_
    rintro _ wc100 ⟨rfl, hEc100⟩
    refine ⟨_, rfl, fun a hS => ?_⟩
    have hB101 := hB95.ext hEc100 (by simp)
    have hB102 := hB96.ext hEc100 (by simp)
    have hE106 := hE99.trans0 hEc100
    refine sg ww [.p] [] [(0, .agg S.ca), (1, (Pv w.heap.size)), (2, (Pv w2.heap.size)), (10, .bool (decide (Lng S))), (3, (Pv wc29.heap.size)), (16, .bool (((inE S).1 : Int) != 0)), (4, (Pv wc59.heap.size)), (22, .bool (((rcE S x59).1 : Int) != 0)), (5, I6 (fF bs94 0))] 4 0 hS .nil fun a hS => sge hK93 <| sdq 2 [.p, .p] [] [(28, .bool (decide ((fF bs94 0 : Int) ≥ 0)))] [] hS .nil fun a hS => ?_
    refine cond_b hS rfl (fun hb108 => ?_) (fun hb108 => ?_)
    ·
     replace hb108 := of_decide_eq_true hb108
     refine sq fun K109 hK109 => rgn 3 <| sd ww [.p, .p] [] [(30, .agg #[I6 73, I6 (fF bs94 0), .string ⟨#[]⟩])] [] 2 1 hS .nil fun a hS => est 0 w2.heap.size 0 [I6 73, I6 (fF bs94 0), .string ⟨#[]⟩] hS hB102 fun a w110 hw111 hS => ?_
     have hB113 : Blk w110 w2.heap.size 34 (#[I6 73, I6 (fF bs94 0), .string ⟨#[]⟩]) := hB102.up hw111
     have hE116 := hE106.ui hw111 hs12
     refine sge hK109 <| wpIn_ret <| then_ret ?_
     refine retA1 hS Tryd.results36 (by kernel_rfl) (by kernel_rfl) rfl hB113 ?_
     exact ⟨(73, fF bs94 0), rfl, .up hlg hI hR59 hrz hD94 (by omega), hE116⟩
    ·
     replace hb108 := of_decide_eq_false hb108
     have hft : fF bs94 0 < 0 := by omega
     refine wpIn_skip <| hK92 _ _ <| sq fun K117 hK117 => rgn 3 <| sd ww [.lds [S.lv, S.nv, I6 S.st, S.pv]] [_, _, _, _] [(31, .agg S.ca)] [] 1 2 hS (hB101.k 0 (hB101.k 1 (hB101.k 2 (hB101.k 3 .nil)))) fun a hS => ecl 1 (some 32) hS Tryd.call60 #[.agg S.ca, I6 1, I6 256, .func (.func 82) #[] #[]] (sumsE_any hG (hb.trans0 hE106) hI) ?_
     rintro _ wc118 ⟨g118, vs118, rfl, hO118, hC118, hL118, hgn118, hEc118⟩
     refine ⟨_, rfl, fun a hS => ?_⟩
     have hB119 := hB101.ext hEc118 (by simp)
     have hB120 := hB102.ext hEc118 (by simp)
     have hE123 := hE106.trans0 hEc118
     refine sd ww [.p] [] [(6, Sn S g118)] [] 3 0 hS .nil fun a hS => sge hK117 <| sq fun K124 hK124 => sq fun K125 hK125 => rgn 4 <| sd ww [.lds [S.lv, S.nv, I6 S.st, S.pv]] [_, _, _, _] [(33, .agg S.ca)] [] 1 3 hS (hB119.k 0 (hB119.k 1 (hB119.k 2 (hB119.k 3 .nil)))) fun a hS => ecl 2 (some 34) hS Tryd.call52 #[.agg S.ca] (nullable_any hG (hb.trans0 hE123) hI) ?_
     rintro _ wc126 ⟨g126, bs126, rfl, hO126, hD126, hgn126, hEc126⟩
     refine ⟨_, rfl, fun a hS => ?_⟩
     have hB128 := hB120.ext hEc126 (by simp)
     have hB131 := hO118.ext hEc126 (by simp)
     have hE132 := hE123.trans0 hEc126
     refine sd ww [.p, .p] [] [(35, I6 S.ns.length), (36, I6 0)] [] 4 0 hS .nil fun a hS => sge hK125 <| wpIn_block ?_
     have hbl133 := (hb.trans0 hE132)
     refine loop_ghost (fun (i : Nat) a' w' => St 53 [] [(2, (Pv w2.heap.size)), (6, Sn S g118), (34, Sn S g126), (35, I6 S.ns.length), (36, I6 i)] a' ∧ Ext [] wc126 w' ∧ i ≤ S.ns.length ∧ fE bs126 vs118 0 = fE (bs126.drop i) (vs118.drop i) i) (fun (i : Nat) => S.ns.length - i) 0 ⟨hS.keepTo [2, 6, 34, 35, 36] (by kernel_rfl), Ext.refl _ _, by omega, rfl⟩ ?_
     rintro i a wl133 ⟨hS, hXl133, hi, ha⟩
     have hB135 := hB128.ext hXl133 (by simp)
     have hB138 := hB131.ext hXl133 (by simp)
     have hB139 := hO126.ext hXl133 (by simp)
     have hel : bs126.length = S.ns.length := hD126.len
     refine sdq 1 [.p] [] [(37, .bool (decide ((↑i : Int) < ↑S.ns.length)))] [] hS .nil fun a hS => sq fun K141 hK141 => ?_
     refine cond_b hS rfl (fun hb142 => ?_) (fun hb142 => ?_)
     ·
      replace hb142 := of_decide_eq_true hb142
      obtain ⟨v, hv⟩ : ∃ v, vs118[i]? = some v := gE
      refine wpIn_skip <| hK141 _ _ <| sq fun K143 hK143 => wpIn_block <| sq fun K144 hK144 => ?_
      rcases (show (bs126[i]? = some true) ∨ (bs126[i]? = some false) from bool_cases (by omega)) with h1 | h1
      ·
       have hst := ha
       rw [fE_step h1 hv] at hst
       refine rgn 5 <| sd ww [.p, .run ((Po g126 (0 + i * 1))), .ld (.bool true), .p, .p] [Rv (Instr.indexAt 31 (Sn S g126) (I6 i)) ((Po g126 (0 + i * 1))) wl133, wl133.cell? ⟨g126, 0 + i * 1, none⟩ = some (.bool true)] [(7, I6 i), (8, .bool true)] [] 5 0 hS (.c (ixs 4 1 i) (.c ((hB139).cellAt _ (bls_at h1)) .nil)) fun a hS => sge hK144 <| sdq 8 [.p, .p, .p, .p, .run ((Po g118 (0 + i * 1))), .ld (I6 v), .p, .p] [Rv (Instr.indexAt 51 (Sn S g118) (I6 i)) ((Po g118 (0 + i * 1))) wl133, wl133.cell? ⟨g118, 0 + i * 1, none⟩ = some (I6 v)] [(48, .bool (decide ((↑v : Int) > 256)))] [] hS (.c (ixs 3 1 i) (.c ((hB138).cellAt _ (ivs_at hv)) .nil)) fun a hS => ?_
       refine cond_b hS rfl (fun hb146 => ?_) (fun hb146 => ?_)
       ·
        replace hb146 := of_decide_eq_true hb146
        have hEl133 : Ext [] w wl133 := hE132.trans0 hXl133
        refine sq fun K147 hK147 => rgn 3 <| sd ww [.p, .p] [] [(50, .agg #[I6 6, I6 i, .string ⟨#[]⟩])] [] 2 1 hS .nil fun a hS => est 0 w2.heap.size 0 [I6 6, I6 i, .string ⟨#[]⟩] hS hB135 fun a w148 hw149 hS => ?_
        have hB151 : Blk w148 w2.heap.size 34 (#[I6 6, I6 i, .string ⟨#[]⟩]) := hB135.up hw149
        have hE156 := hEl133.ui hw149 hs12
        refine sge hK147 <| wpIn_ret <| inBlock_ret <| then_ret <| then_ret <| inBlock_ret <| then_ret ?_
        refine retA1 hS Tryd.results36 (by kernel_rfl) (by kernel_rfl) rfl hB151 ?_
        exact ⟨(6, (i : Int)), rfl, (show fE bs126 vs118 0 = (6, (i : Int)) by rw [hst, if_pos ⟨rfl, by omega⟩]) ▸ .em hlg hI hR59 hrz hD94 hft hD126 hL118 hC118, hE156⟩
       ·
        replace hb146 := of_decide_eq_false hb146
        refine wpIn_skip <| inBlock_normal <| hK143 _ _ <| rgn 2 <| sd ww [.as (I6 (↑i + 1)), .p] [_] [(36, I6 (↑i + 1))] [] 2 0 hS (as6 (↑i + 1)) fun a hS => seg_end ?_
        exact ⟨i + 1, ⟨hS.kp [(2, (Pv w2.heap.size)), (6, Sn S g118), (34, Sn S g126), (35, I6 S.ns.length), (36, I6 (↑i + 1))], hXl133, by omega, by rw [hst, if_neg (by omega)]⟩, by omega⟩
      ·
       have hst := ha
       rw [fE_step h1 hv] at hst
       refine rgn 5 <| sd ww [.p, .run ((Po g126 (0 + i * 1))), .ld (.bool false), .p, .p] [Rv (Instr.indexAt 31 (Sn S g126) (I6 i)) ((Po g126 (0 + i * 1))) wl133, wl133.cell? ⟨g126, 0 + i * 1, none⟩ = some (.bool false)] [(7, I6 i), (8, .bool false)] [] 5 0 hS (.c (ixs 4 1 i) (.c ((hB139).cellAt _ (bls_at h1)) .nil)) fun a hS => sge hK144 <| sdq 8 [.p, .p, .no, .no, .no, .no, .no, .p] [] [(48, .bool false)] [] hS .nil fun a hS => ?_
       refine cond_f hS rfl ?_
       refine wpIn_skip <| inBlock_normal <| hK143 _ _ <| rgn 2 <| sd ww [.as (I6 (↑i + 1)), .p] [_] [(36, I6 (↑i + 1))] [] 2 0 hS (as6 (↑i + 1)) fun a hS => seg_end ?_
       exact ⟨i + 1, ⟨hS.kp [(2, (Pv w2.heap.size)), (6, Sn S g118), (34, Sn S g126), (35, I6 S.ns.length), (36, I6 (↑i + 1))], hXl133, by omega, by rw [hst]; simp⟩, by omega⟩
     ·
      replace hb142 := of_decide_eq_false hb142
      have hEl133 : Ext [] w wl133 := hE132.trans0 hXl133
      rw [List.drop_eq_nil_of_le (by omega)] at ha
      refine xt2 <| hK124 _ _ <| sq fun K158 hK158 => rgn 2 <| sd ww [.p] [] [(52, .agg #[I6 0, I6 0, .string ⟨#[]⟩])] [] 1 1 hS .nil fun a hS => est 0 w2.heap.size 0 [I6 0, I6 0, .string ⟨#[]⟩] hS hB135 fun a w159 hw160 hS => ?_
      have hB162 : Blk w159 w2.heap.size 34 (#[I6 0, I6 0, .string ⟨#[]⟩]) := hB135.up hw160
      have hE167 := hEl133.ui hw160 hs12
      refine sge hK158 <| wpIn_ret ?_
      refine retA1 hS Tryd.results36 (by kernel_rfl) (by kernel_rfl) rfl hB162 ?_
      exact ⟨(0, 0), rfl, (show fE bs126 vs118 0 = (0, 0) from ha) ▸ .em hlg hI hR59 hrz hD94 hft hD126 hL118 hC118, hE167⟩
theorem Nullable_any {w0 w : World} {S : Sp} (hG : SpOk w0 S) (hb : Ext [] w0 w) :
  Calls Tryd.prog 14 #[.agg S.ca] w fun e w' => ∃ z : Int × Int, ChkR S z ∧ ((z.1 ≠ 0 ∧ e = .returned (.tuple #[.slice none 0 0, .agg #[I6 z.1, I6 z.2, .string ⟨#[]⟩]])) ∨ (z.1 = 0 ∧ ∃ g bs, e = .returned (.tuple #[Sn S g, .agg #[I6 0, I6 0, .string ⟨#[]⟩]]) ∧ OwnR w' 4 1 g S.ns.length S.ns.length (bls bs) ∧ IsD S.g false S.ns.length bs ∧ w.heap.size ≤ g)) ∧ Ext [] w w' := by
 refine cbd 14 [(0, .agg S.ca)] Tryd.func14 rfl fun a hS => ?_
 have hE0 : Ext [] w w := Ext.refl _ _
 refine sq fun K1 hK1 => rgn 3 <| ebx 2 S.ca 26 (some 1) hS fun a w2 hw3 hS => ?_
 have hB4 := Blk.nw hw3
 have hs5 := hE0.size
 have hE6 := hE0.al hw3
 refine sd ww [.p] [] [(2, .slice none 0 0)] [] 2 1 hS .nil fun a hS => ebx 0 #[I6 0, I6 0, .string ⟨#[]⟩] 34 (some 3) hS fun a w7 hw8 hS => ?_
 have hB10 := Blk.at' hw8 (hB4.alloc _)
 have hB11 := Blk.nw hw8
 have hs12 := hE6.size
 have hE13 := hE6.al hw8
 refine sge hK1 <| sq fun K14 hK14 => sq fun K15 hK15 => rgn 4 <| sd ww [.lds [S.lv, S.nv, I6 S.st, S.pv]] [_, _, _, _] [(5, .agg S.ca)] [] 1 3 hS (hB10.k 0 (hB10.k 1 (hB10.k 2 (hB10.k 3 .nil)))) fun a hS => ecl 2 (some 6) hS Tryd.call36 #[.agg S.ca] (check_any hG (hb.trans0 hE13)) ?_
 rintro _ wc16 ⟨z16, rfl, hZ16, hEc16⟩
 refine ⟨_, rfl, fun a hS => ?_⟩
 have hB17 := hB10.ext hEc16 (by simp)
 have hB18 := hB11.ext hEc16 (by simp)
 have hE19 := hE13.trans0 hEc16
 refine ebx 1 #[I6 0, I6 0, .string ⟨#[]⟩] 34 (some 4) hS fun a w20 hw21 hS => ?_
 have hn22 := Nat.ne_of_lt hB17.lt
 have hn23 := Nat.ne_of_lt hB18.lt
 have hB24 := Blk.at' hw21 (hB17.alloc _)
 have hB25 := Blk.at' hw21 (hB18.alloc _)
 have hB26 := Blk.nw hw21
 have hs27 := hE19.size
 have hE28 := hE19.al hw21
 refine est 0 wc16.heap.size 0 [I6 z16.1, I6 z16.2, .string ⟨#[]⟩] hS hB26 fun a w29 hw30 hS => ?_
 have hB31 := Blk.at' hw30 (hB24.updNe (Ne.symm hn22) _ _)
 have hB32 := Blk.at' hw30 (hB25.updNe (Ne.symm hn23) _ _)
 have hB33 : Blk w29 wc16.heap.size 34 (#[I6 z16.1, I6 z16.2, .string ⟨#[]⟩]) := hB26.up hw30
 have hE34 := hE28.ui hw30 hs27
 refine sge hK15 <| sdq 3 [.p, .ld (I6 z16.1), .p] [_] [(9, .bool ((z16.1 : Int) != 0))] [] hS (hB33.k 0 .nil) fun a hS => ?_
 refine cond_b hS rfl (fun hb36 => ?_) (fun hb36 => ?_)
 ·
  replace hb36 := test_ne_t hb36
  refine sq fun K37 hK37 => ?_
  refine fn3 [.q (.lds [I6 z16.1, I6 z16.2, .string ⟨#[]⟩]), .q .p, .e] [0, 0, 0] [0, 0, 0] [0, 0, 3] [2] 1 ([(0, .agg S.ca), (1, (Pv w.heap.size)), (3, (Pv w2.heap.size)), (4, (Pv wc16.heap.size)), (9, .bool ((z16.1 : Int) != 0)), (2, .slice none 0 0), (10, .agg #[I6 z16.1, I6 z16.2, .string ⟨#[]⟩])]) [w29.drew, upd (w29.drew) (w2.heap.size) 34 #[I6 z16.1, I6 z16.2, .string ⟨#[]⟩]] w29.drew (fun w' => [(0, [w'.cell? ⟨wc16.heap.size, 0, none⟩ = some (I6 z16.1), w'.cell? ⟨wc16.heap.size, 1, none⟩ = some (I6 z16.2), w'.cell? ⟨wc16.heap.size, 2, none⟩ = some (.string ⟨#[]⟩)])]) [0, 1, 3, 4, 9] [] hS (fun _ => by kernel_rfl) ?_ ?_ ?_
  ·intro e w' hw
   refine (.c ?_ .nil)
   ·intro h1 h2
    obtain rfl := Nat.le_antisymm h2 h1
    obtain rfl : w' = w29.drew := hw.trans (by kernel_rfl)
    exact (.c ((hB33.drew : Blk w29.drew wc16.heap.size 34 (#[I6 z16.1, I6 z16.2, .string ⟨#[]⟩])).cell 0 rfl) (.c ((hB33.drew : Blk w29.drew wc16.heap.size 34 (#[I6 z16.1, I6 z16.2, .string ⟨#[]⟩])).cell 1 rfl) (.c ((hB33.drew : Blk w29.drew wc16.heap.size 34 (#[I6 z16.1, I6 z16.2, .string ⟨#[]⟩])).cell 2 rfl) .nil)))
  ·refine (.c ?eq38_2 .nil)
   ·refine eff_at (w29.drew) (upd (w29.drew) (w2.heap.size) 34 #[I6 z16.1, I6 z16.2, .string ⟨#[]⟩]) (by kernel_rfl) (by kernel_rfl) ?_
    exact upon_store (b := w2.heap.size) (off := 0) (vs := [I6 z16.1, I6 z16.2, .string ⟨#[]⟩]) (by kernel_rfl) (hB32.drew : Blk w29.drew w2.heap.size 34 (#[I6 0, I6 0, .string ⟨#[]⟩])) (by simp) ⟨by kernel_rfl, by kernel_rfl⟩
  rintro a w39 hS hw40
  replace hw40 : w39 = upd (w29.drew) (w2.heap.size) 34 #[I6 z16.1, I6 z16.2, .string ⟨#[]⟩] := hw40.trans (by kernel_rfl)
  have hB42 : Blk w39 w2.heap.size 34 (#[I6 z16.1, I6 z16.2, .string ⟨#[]⟩]) := by rw [hw40]; exact (hB32.drew).upd _ _
  have hE44 : Ext [] w w39 := by rw [hw40]; exact (hE34.drew).updIn (.inr hs12) _ _
  replace hS := hS.kp [(0, .agg S.ca), (1, (Pv w.heap.size)), (3, (Pv w2.heap.size)), (4, (Pv wc16.heap.size)), (9, .bool ((z16.1 : Int) != 0)), (2, .slice none 0 0)]
  refine hK37 _ _ <| wpIn_ret <| then_ret ?_
  refine retTA hS Tryd.results14 (by kernel_rfl) (by kernel_rfl) rfl rfl hB42 ?_
  exact ⟨z16, hZ16, .inl ⟨hb36, rfl⟩, hE44⟩
 ·
  replace hb36 := test_ne_f hb36
  have hI := (hZ16.zero.2.1 hb36).ix
  refine wpIn_skip <| hK14 _ _ <| sq fun K45 hK45 => rgn 5 <| sd ww [.lds [S.lv, S.nv, I6 S.st, S.pv]] [_, _, _, _] [(11, .agg S.ca)] [] 1 4 hS (hB31.k 0 (hB31.k 1 (hB31.k 2 (hB31.k 3 .nil)))) fun a hS => ecl 3 (some 12) hS Tryd.call52 #[.agg S.ca] (nullable_any hG (hb.trans0 hE34) hI) ?_
  rintro _ wc46 ⟨g46, bs46, rfl, hO46, hD46, hgn46, hEc46⟩
  refine ⟨_, rfl, fun a hS => ?_⟩
  have hB48 := hB32.ext hEc46 (by simp)
  have hE50 := hE34.trans0 hEc46
  refine sd ww [.p, .p] [] [(2, Sn S g46), (13, .agg #[I6 0, I6 0, .string ⟨#[]⟩])] [] 4 1 hS .nil fun a hS => est 0 w2.heap.size 0 [I6 0, I6 0, .string ⟨#[]⟩] hS hB48 fun a w51 hw52 hS => ?_
  have hB54 : Blk w51 w2.heap.size 34 (#[I6 0, I6 0, .string ⟨#[]⟩]) := hB48.up hw52
  have hB56 := OwnR.at' hw52 (hO46.updNe ((OwnR.ne_type hO46 hB48 (by decide)).symm) _ _)
  have hE57 := hE50.ui hw52 hs12
  refine sge hK45 <| wpIn_ret ?_
  refine retTA hS Tryd.results14 (by kernel_rfl) (by kernel_rfl) rfl rfl hB54 ?_
  exact ⟨z16, hZ16, .inr ⟨hb36, _, _, rfl, hB56, hD46, (Nat.le_trans hE34.size hgn46)⟩, hE57⟩
end Go.Proofs.YtkkpghlcmcaoiaaDoor
