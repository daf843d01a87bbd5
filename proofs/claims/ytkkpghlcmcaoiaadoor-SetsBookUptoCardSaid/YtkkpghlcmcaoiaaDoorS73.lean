import Derived.Test.YtkkpghlcmcaoiaaDoorKc
import Derived.Test.YtkkpghlcmcaoiaaDoorKd
namespace Go.Proofs.YtkkpghlcmcaoiaaDoor
open Go.Vc Go.Gm
set_option maxHeartbeats 4000000 in
theorem SetsBook_any {w0 w : World} {S : Sp} (hG : SpOk w0 S) (hb : Ext [] w0 w) (hT : Tab w0) (hX : ∃ xs, PatOk w0 S xs) :
  Calls Tryd.prog 10 #[.agg S.ca] w fun e w' => e = .returned (.bool true) ∧ Ext [] w w' := by
 have hlmax := hG.lmax
 have hnmax := hG.nmax
 have hpmax := hG.pmax
 refine cbd 279 [(0, .agg S.ca)] Tryd.func10 rfl fun a hS => ?_
 have hE0 : Ext [] w w := Ext.refl _ _
 refine sq fun K1 hK1 => rgn 2 <| ebx 1 S.ca 26 (some 1) hS fun a w2 hw3 hS => ?_
 have hB4 := Blk.nw hw3
 have hs5 := hE0.size
 have hE6 := hE0.al hw3
 refine sd ww [.p] [] [(2, .bool false)] [] 2 0 hS .nil fun a hS => sge hK1 <| sq fun K7 hK7 => rgn 10 <| sd ww [.lds [S.lv, S.nv, I6 S.st, S.pv]] [_, _, _, _] [(35, .agg S.ca)] [] 1 9 hS (hB4.k 0 (hB4.k 1 (hB4.k 2 (hB4.k 3 .nil)))) fun a hS => ecl 8 (some 36) hS Tryd.call27 #[.agg S.ca] (told_any hG (hb.trans0 hE6) hT) ?_
 rintro _ wtT ⟨z, hZT, ⟨hzT, rfl⟩ | ⟨hzT, T, rfl, hTT⟩, hEtT⟩
 ·
  refine ⟨_, rfl, fun a hS => ?_⟩
  have hE9 := hE6.trans0 hEtT
  refine sd ww [.p, .p, .p, .p] [] [(37, .agg #[.slice none 0 0, .slice none 0 0, .slice none 0 0, .slice none 0 0, .bool false]), (38, .bool false), (39, .bool true)] [] 6 4 hS .nil fun a hS => ebx 3 #[.slice none 0 0, .slice none 0 0, .slice none 0 0, .slice none 0 0, .bool false] 53 (some 3) hS fun a w10 hw11 hS => ?_
  have hB14 := Blk.nw hw11
  have hs15 := hE9.size
  have hE16 := hE9.al hw11
  refine est 2 wtT.heap.size 0 [.slice none 0 0, .slice none 0 0, .slice none 0 0, .slice none 0 0, .bool false] hS hB14 fun a w17 hw18 hS => ?_
  have hE21 := hE16.ui hw18 hs15
  refine sd ww [.p, .p] [] [(4, .bool false), (5, .bool true)] [] 10 0 hS .nil fun a hS => sge hK7 <| sq fun K22 hK22 => sdq 6 [.p, .p, .p, .no, .no, .p] [] [(45, .bool true)] [] hS .nil fun a hS => ?_
  refine cond_t hS rfl ?_
  refine sq fun K24 hK24 => rgn 5 <| sd ww [.p, .p] [] [(47, .bool true)] [] 2 3 hS .nil fun a hS => ecl 2 (some 48) hS Tryd.call12 #[] (Head_any (hT.ext0 (hb.trans0 hE21))) ?_
  rintro _ wc25 ⟨rfl, hEc25⟩
  refine ⟨_, rfl, fun a hS => ?_⟩
  have hE28 := hE21.trans0 hEc25
  refine sg ww [.p, .p] [] [(0, .agg S.ca), (1, (Pv w.heap.size)), (2, .bool true), (3, (Pv wtT.heap.size)), (4, .bool false), (5, .bool true), (45, .bool true)] 5 0 hS .nil fun a hS => sge hK24 <| wpIn_ret <| then_ret ?_
  refine ret1 hS Tryd.results10 rfl ?_
  exact ⟨rfl, hE28⟩
 ·
  refine ⟨_, rfl, fun a hS => ?_⟩
  have hB29 := hB4.ext hEtT (by simp)
  have hE30 := hE6.trans0 hEtT
  have hok := hZT.zero.2.1 hzT
  have hTT0 := hTT
  have hI := hok.ix
  have hIW := hTT0.isW
  have hwn := hIW.len
  have hpos := hok.ps
  refine sd ww [.p, .p, .p, .p] [] [(37, .agg #[Sn S T.eg, .slice T.fb S.ns.length T.fc, .slice T.wb S.ns.length T.wc, .slice T.yb T.yn T.yc, .bool T.full]), (38, .bool true), (39, .bool true)] [] 6 4 hS .nil fun a hS => ebx 3 #[.slice none 0 0, .slice none 0 0, .slice none 0 0, .slice none 0 0, .bool false] 53 (some 3) hS fun a w31 hw32 hS => ?_
  have hn33 := Nat.ne_of_lt hB29.lt
  have hB34 := Blk.at' hw32 (hB29.alloc _)
  have hX35 : Ext [] wtT w31 := by rw [hw32]; exact (Ext.refl _ _).alloc _
  have hG36 : TdOk S w2.heap.size w31 T := hTT.ext0 hX35
  have hB37 := Blk.nw hw32
  have hs38 := hE30.size
  have hE39 := hE30.al hw32
  refine est 2 wtT.heap.size 0 [Sn S T.eg, .slice T.fb S.ns.length T.fc, .slice T.wb S.ns.length T.wc, .slice T.yb T.yn T.yc, .bool T.full] hS hB37 fun a w40 hw41 hS => ?_
  have hB42 := Blk.at' hw41 (hB34.updNe (Ne.symm hn33) _ _)
  have hB43 : Blk w40 wtT.heap.size 53 (#[Sn S T.eg, .slice T.fb S.ns.length T.fc, .slice T.wb S.ns.length T.wc, .slice T.yb T.yn T.yc, .bool T.full]) := hB37.up hw41
  have hX44 : Ext [wtT.heap.size] w31 w40 := by rw [hw41]; exact (Ext.refl _ _).updIn (.inl (by simp)) _ _
  have hG45 : TdOk S w2.heap.size w40 T := hG36.extT hX44 hB37 (by decide) (by decide) (by decide)
  have hE46 := hE39.ui hw41 hs38
  refine sd ww [.p, .p] [] [(4, .bool true), (5, .bool true)] [] 10 0 hS .nil fun a hS => sge hK7 <| sq fun K47 hK47 => sq fun K48 hK48 => rgn 6 <| sd ww [.p, .p, .p] [] [(42, .bool false)] [] 3 3 hS .nil fun a hS => ecl 2 (some 43) hS Tryd.call12 #[] (Head_any (hT.ext0 (hb.trans0 hE46))) ?_
  rintro _ wc49 ⟨rfl, hEc49⟩
  refine ⟨_, rfl, fun a hS => ?_⟩
  have hB50 := hB42.ext hEc49 (by simp)
  have hB51 := hB43.ext hEc49 (by simp)
  have hG52 : TdOk S w2.heap.size wc49 T := hG45.ext0 hEc49
  have hE53 := hE46.trans0 hEc49
  refine sd ww [.p, .p] [] [(45, .bool false)] [] 6 0 hS .nil fun a hS => sge hK48 ?_
  refine cond_f hS rfl ?_
  refine wpIn_skip <| hK47 _ _ <| sq fun K54 hK54 => rgn 4 <| sg ww [.lds [Sn S T.eg, .slice T.fb S.ns.length T.fc, .slice T.wb S.ns.length T.wc, .slice T.yb T.yn T.yc, .bool T.full]] [_, _, _, _, _] [(0, .agg S.ca), (1, (Pv w.heap.size)), (2, .bool false), (3, (Pv wtT.heap.size)), (4, .bool true), (5, .bool true), (45, .bool false), (50, .agg #[Sn S T.eg, .slice T.fb S.ns.length T.fc, .slice T.wb S.ns.length T.wc, .slice T.yb T.yn T.yc, .bool T.full])] 1 3 hS (hB51.k 0 (hB51.k 1 (hB51.k 2 (hB51.k 3 (hB51.k 4 .nil))))) fun a hS => ecl 2 (some 51) hS Tryd.call41 #[.agg #[Sn S T.eg, .slice T.fb S.ns.length T.fc, .slice T.wb S.ns.length T.wc, .slice T.yb T.yn T.yc, .bool T.full]] (copied_any hG52 hnmax) ?_
  rintro _ wc55 ⟨q455, rfl, hC55, hEc55⟩
  refine ⟨_, rfl, fun a hS => ?_⟩
  have hB56 := hB50.ext hEc55 (by simp)
  have hG58 : TdOk S w2.heap.size wc55 T := hG52.ext0 hEc55
  have hE59 := hE53.trans0 hEc55
  have hbr60 : Ext [] w0 wc55 := (hb.trans0 hE59)
  have hEr60 : Ext [] wc55 wc55 := Ext.refl _ _
  refine ebx 1 #[.slice none 0 0, .slice none 0 0, .slice none 0 0, .slice none 0 0, .bool false] 53 (some 6) hS fun a w61 hw62 hS => ?_
  have hn63 := Nat.ne_of_lt hB56.lt
  have hB65 := Blk.at' hw62 (hB56.alloc _)
  have hX67 : Ext [] wc55 w61 := by rw [hw62]; exact (Ext.refl _ _).alloc _
  have hG68 : TdOk S w2.heap.size w61 T := hG58.ext0 hX67
  have hB69 := Blk.nw hw62
  have hs70 := hEr60.size
  have hE71 := hEr60.al hw62
  refine est 0 wc55.heap.size 0 [.slice q455.a0 q455.n0 q455.k0, .slice q455.a1 q455.n1 q455.k1, .slice q455.a2 q455.n2 q455.k2, .slice q455.a3 q455.n3 q455.k3, .bool T.full] hS hB69 fun a w72 hw73 hS => ?_
  have hB74 := Blk.at' hw73 (hB65.updNe (Ne.symm hn63) _ _)
  have hB76 : Blk w72 wc55.heap.size 53 (#[.slice q455.a0 q455.n0 q455.k0, .slice q455.a1 q455.n1 q455.k1, .slice q455.a2 q455.n2 q455.k2, .slice q455.a3 q455.n3 q455.k3, .bool T.full]) := hB69.up hw73
  have hX77 : Ext [wc55.heap.size] w61 w72 := by rw [hw73]; exact (Ext.refl _ _).updIn (.inl (by simp)) _ _
  have hG78 : TdOk S w2.heap.size w72 T := hG68.extT hX77 hB69 (by decide) (by decide) (by decide)
  have hE79 := hE71.ui hw73 hs70
  refine sge hK54 <| sq fun K80 hK80 => ?_
  have hC5 := hC55.ext0 hE79
  obtain ⟨⟨gs, hgr, hgl, hga⟩, hgll, hglm⟩ := hC5.g
  have hbr81 : Ext [] w0 w72 := (hbr60.trans0 hE79)
  have hEr81 : Ext [] w72 w72 := Ext.refl _ _
  refine rgn 1 <| sd ww [.p] [] [(7, .slice none 0 0)] [] 1 0 hS .nil fun a hS => sge hK80 <| sdq 1 [.p] [] [(8, .slice none 0 0)] [] hS .nil fun a hS => sdq 1 [.p] [] [(9, .slice none 0 0)] [] hS .nil fun a hS => sdq 1 [.p] [] [(10, .slice none 0 0)] [] hS .nil fun a hS => sq fun K85 hK85 => sdq 1 [.p] [] [(11, I6 0)] [] hS .nil fun a hS => wpIn_block ?_
  refine loop_ghost (fun ((turn, K) : Nat × Kx) a' w' => St 279 [] [(1, (Pv w.heap.size)), (6, (Pv wc55.heap.size)), (7, .slice K.ab K.an K.ac), (8, .slice K.hb K.hn K.hc), (9, .slice K.ob K.on K.oc), (10, .slice K.eb K.en K.ec), (11, I6 turn)] a' ∧ Ext [] w72 w' ∧ turn ≤ 4 ∧ Kb w72.heap.size w' K ∧ ((turn = 0 ∧ K.LH = []) ∨ (0 < turn ∧ ∀ j, j < S.ps.length → j < 8 → j < K.LH.length)) ∧ HW S T K.LH ∧ K.an ≤ turn * 3145736 ∧ K.on ≤ turn * 3 ∧ K.en ≤ turn) (fun ((turn, K) : Nat × Kx) => 4 - turn) (0, (⟨none, 0, 0, [], none, 0, 0, [], none, 0, 0, [], none, 0, 0, []⟩ : Kx)) ⟨hS.keepTo [1, 6, 7, 8, 9, 10, 11] (by kernel_rfl), hEr81, by omega, Kb.start, .inl ⟨rfl, rfl⟩, HW.nil, ⟨Nat.zero_le _, Nat.zero_le _, Nat.zero_le _⟩⟩ ?_
  rintro ⟨turn, K⟩ a wl87 ⟨hS, hXl87, hturn, hK, hHL, hHW, hsz⟩
  have hB88 := hB74.ext hXl87 (by simp)
  have hB89 := hB76.ext hXl87 (by simp)
  refine sq fun K90 hK90 => sdq 2 [.p, .p] [] [(53, .bool (decide ((↑turn : Int) < 4)))] [] hS .nil fun a hS => ?_
  refine cond_b hS rfl (fun hb92 => ?_) (fun hb92 => ?_)
  ·
   replace hb92 := of_decide_eq_true hb92
   have hN12 : w72.heap.size ≤ wl87.heap.size := hXl87.size
   refine wpIn_skip <| hK90 _ _ <| sq fun K93 hK93 => wpIn_block <| sq fun K94 hK94 => rgn 10 <| sd ww [.lds [S.lv, S.nv, I6 S.st, S.pv]] [_, _, _, _] [(57, .agg S.ca)] [] 1 9 hS (hB88.k 0 (hB88.k 1 (hB88.k 2 (hB88.k 3 .nil)))) fun a hS => ecl 8 (some 58) hS Tryd.call27 #[.agg S.ca] (told_ok hG (hbr81.trans0 hXl87) hT hok) ?_
   rintro _ wc95 ⟨T295, rfl, hT295, hEc95⟩
   refine ⟨_, rfl, fun a hS => ?_⟩
   have hB97 := hB89.ext hEc95 (by simp)
   have hG98 : Kb w72.heap.size wc95 K := hK.ext0 hEc95
   have hE99 := hXl87.trans0 hEc95
   have hKt95 := Kt.start hT295 hK
   refine sd ww [.p, .p, .p, .p] [] [(59, .agg #[Sn S T295.eg, .slice T295.fb S.ns.length T295.fc, .slice T295.wb S.ns.length T295.wc, .slice T295.yb T295.yn T295.yc, .bool T295.full]), (60, .bool true), (61, .bool true)] [] 6 4 hS .nil fun a hS => ebx 3 #[.slice none 0 0, .slice none 0 0, .slice none 0 0, .slice none 0 0, .bool false] 53 (some 12) hS fun a w100 hw101 hS => ?_
   have hn103 := Nat.ne_of_lt hB97.lt
   have hB105 := Blk.at' hw101 (hB97.alloc _)
   have hX106 : Ext [] wc95 w100 := by rw [hw101]; exact (Ext.refl _ _).alloc _
   have hG107 : Kb w72.heap.size w100 K := hG98.ext0 hX106
   have hG108 : Kt S wl87.heap.size w100 T295 K (bl T295.fL ++ (bl T295.wL ++ bl T295.yL)) := hKt95.ext0 hX106
   have hB109 := Blk.nw hw101
   have hs110 := hE99.size
   have hE111 := hE99.al hw101
   refine est 2 wc95.heap.size 0 [Sn S T295.eg, .slice T295.fb S.ns.length T295.fc, .slice T295.wb S.ns.length T295.wc, .slice T295.yb T295.yn T295.yc, .bool T295.full] hS hB109 fun a w112 hw113 hS => ?_
   have hB115 := Blk.at' hw113 (hB105.updNe (Ne.symm hn103) _ _)
   have hB116 : Blk w112 wc95.heap.size 53 (#[Sn S T295.eg, .slice T295.fb S.ns.length T295.fc, .slice T295.wb S.ns.length T295.wc, .slice T295.yb T295.yn T295.yc, .bool T295.full]) := hB109.up hw113
   have hX117 : Ext [wc95.heap.size] w100 w112 := by rw [hw113]; exact (Ext.refl _ _).updIn (.inl (by simp)) _ _
   have hG118 : Kb w72.heap.size w112 K := hG107.extT hX117 hB109 (by decide) (by decide) (by decide) (by decide) (by decide)
   have hG119 : Kt S wl87.heap.size w112 T295 K (bl T295.fL ++ (bl T295.wL ++ bl T295.yL)) := hG108.extT hX117 hB109 (by decide) (by decide) (by decide)
   have hE120 := hE111.ui hw113 hs110
   refine sd ww [.p, .p] [] [(13, .bool true)] [] 10 0 hS .nil fun a hS => sge hK94 <| sq fun K121 hK121 => sq fun K122 hK122 => rgn 8 <| sd ww [.p, .p, .p, .lds [Sn S T295.eg, .slice T295.fb S.ns.length T295.fc, .slice T295.wb S.ns.length T295.wc, .slice T295.yb T295.yn T295.yc, .bool T295.full], .lds [.slice q455.a0 q455.n0 q455.k0, .slice q455.a1 q455.n1 q455.k1, .slice q455.a2 q455.n2 q455.k2, .slice q455.a3 q455.n3 q455.k3, .bool T.full]] [_, _, _, _, _, _, _, _, _, _] [(64, .bool false), (65, .agg #[Sn S T295.eg, .slice T295.fb S.ns.length T295.fc, .slice T295.wb S.ns.length T295.wc, .slice T295.yb T295.yn T295.yc, .bool T295.full]), (66, .agg #[.slice q455.a0 q455.n0 q455.k0, .slice q455.a1 q455.n1 q455.k1, .slice q455.a2 q455.n2 q455.k2, .slice q455.a3 q455.n3 q455.k3, .bool T.full])] [] 5 3 hS (hB116.k 0 (hB116.k 1 (hB116.k 2 (hB116.k 3 (hB116.k 4 (hB115.k 0 (hB115.k 1 (hB115.k 2 (hB115.k 3 (hB115.k 4 .nil)))))))))) fun a hS => ecl 2 (some 67) hS Tryd.call32 #[.agg #[Sn S T295.eg, .slice T295.fb S.ns.length T295.fc, .slice T295.wb S.ns.length T295.wc, .slice T295.yb T295.yn T295.yc, .bool T295.full], .agg #[.slice q455.a0 q455.n0 q455.k0, .slice q455.a1 q455.n1 q455.k1, .slice q455.a2 q455.n2 q455.k2, .slice q455.a3 q455.n3 q455.k3, .bool T.full]] (sameTold_c hG119.td hTT0 (hC5.ext0 hE120) hnmax) ?_
   rintro _ wc123 ⟨rfl, hEc123⟩
   refine ⟨_, rfl, fun a hS => ?_⟩
   have hB126 := hB116.ext hEc123 (by simp)
   have hG127 : Kb w72.heap.size wc123 K := hG118.ext0 hEc123
   have hG128 : Kt S wl87.heap.size wc123 T295 K (bl T295.fL ++ (bl T295.wL ++ bl T295.yL)) := hG119.ext0 hEc123
   have hE129 := hE120.trans0 hEc123
   refine sd ww [.p, .p] [] [(69, .bool false)] [] 8 0 hS .nil fun a hS => sge hK122 ?_
   refine cond_f hS rfl ?_
   refine wpIn_skip <| hK121 _ _ <| sq fun K130 hK130 => sq fun K131 hK131 => rgn 1 <| sg ww [.p] [] [(1, (Pv w.heap.size)), (6, (Pv wc55.heap.size)), (7, .slice K.ab K.an K.ac), (8, .slice K.hb K.hn K.hc), (9, .slice K.ob K.on K.oc), (10, .slice K.eb K.en K.ec), (11, I6 turn), (12, (Pv wc95.heap.size)), (13, .bool true), (69, .bool false), (15, I6 0)] 1 0 hS .nil fun a hS => sge hK131 <| wpIn_block ?_
   have hKyn := hG128.td.ynm hnmax
   refine loop_ghost (fun ((i, K2) : Nat × Kx) a' w' => St 279 [] [(1, (Pv w.heap.size)), (6, (Pv wc55.heap.size)), (7, .slice K2.ab K2.an K2.ac), (8, .slice K2.hb K2.hn K2.hc), (9, .slice K2.ob K2.on K2.oc), (10, .slice K2.eb K2.en K2.ec), (11, I6 turn), (12, (Pv wc95.heap.size)), (15, I6 i)] a' ∧ Ext [] w72 w' ∧ i ≤ S.ps.length ∧ i ≤ 8 ∧ Kb w72.heap.size w' K2 ∧ Kt S wl87.heap.size w' T295 K2 (bl T295.fL ++ (bl T295.wL ++ bl T295.yL)) ∧ Blk w' (wc95.heap.size) 53 #[Sn S T295.eg, .slice T295.fb S.ns.length T295.fc, .slice T295.wb S.ns.length T295.wc, .slice T295.yb T295.yn T295.yc, .bool T295.full] ∧ ((turn = 0 ∧ K2.LH.length = i) ∨ (0 < turn ∧ ∀ j, j < S.ps.length → j < 8 → j < K2.LH.length)) ∧ HW S T K2.LH ∧ K2.an ≤ turn * 3145736 + i ∧ K2.on ≤ turn * 3 ∧ K2.en ≤ turn) (fun ((i, K2) : Nat × Kx) => 8 - i) (0, K) ⟨hS.keepTo [1, 6, 7, 8, 9, 10, 11, 12, 15] (by kernel_rfl), hE129, Nat.zero_le _, Nat.zero_le _, hG127, hG128, hB126, by
    rcases hHL with ⟨h, h1⟩ | h
    ·exact .inl ⟨h, by rw [h1]; rfl⟩
    ·exact .inr h, hHW, ⟨by omega, by omega, by omega⟩⟩ ?_
   rintro ⟨i, K2⟩ a wl132 ⟨hS, hXl132, hi, hi9, hK2, hKt2, hb12, hHL2, hHW2, hsz2⟩
   have hB133 := hB74.ext hXl132 (by simp)
   have hB134 := hB76.ext hXl132 (by simp)
   have hhl := hK2.h.len
   have hal := hK2.a.len
   refine sq fun K135 hK135 => sq fun K136 hK136 => ?_
   rcases (show (i < S.ps.length ∧ i < 8) ∨ (¬i < S.ps.length) ∨ (i < S.ps.length ∧ ¬i < 8) from by omega) with ⟨hi1, hi8⟩ | hi1 | ⟨hi1, hi8⟩
   ·
    refine rgn 9 <| sd ww [.p, .p, .ld (S.pv), .run (I6 S.ps.length), .as (.bool true), .p, .p, .as (.bool true), .p] [_, Rv (Builtin.len_ #[24] 3 #[S.pv]) (I6 S.ps.length) wl132, Value.bool (decide ((↑i : Int) < ↑S.ps.length)) = .bool true, Value.bool (decide ((↑i : Int) < 8)) = .bool true] [(78, .bool true)] [] 9 0 hS (hB133.k 3 (.c (rlr 73 hG.prods) (.c (as_t (by omega)) (.c (as_t (by omega)) .nil)))) fun a hS => sge hK136 ?_
    refine cond_t hS rfl ?_
    refine wpIn_skip <| hK135 _ _ <| sq fun K137 hK137 => wpIn_block <| sq fun K138 hK138 => ?_
    obtain ⟨p, hpi⟩ : ∃ p, S.ps[i]? = some p := gE
    have hpm := List.mem_of_getElem? hpi
    have hpl := hI.pl hpm
    have h16 := hok.r16 hpm
    obtain ⟨lw, hlw⟩ : ∃ l, T.wl[p.l.toNat]? = some l := gE
    obtain ⟨ug, hugi, hug⟩ := hga _ _ hlw
    have hlwm := hglm lw (List.mem_of_getElem? hlw)
    refine rgn 7 <| sd ww [.p, .ld (S.pv), .p, .run ((Po (bof S.pv) (oof S.pv + i * 2))), .lds [I6 p.l, p.rv]] [_, Rv (Instr.indexAt 24 (S.pv) (I6 i)) ((Po (bof S.pv) (oof S.pv + i * 2))) wl132, wl132.cell? ⟨bof S.pv, oof S.pv + i * 2, none⟩ = some (I6 p.l), wl132.cell? ⟨bof S.pv, oof S.pv + i * 2 + 1, none⟩ = some (p.rv)] [(85, .agg #[I6 p.l, p.rv])] [] 5 2 hS (hB133.k 3 (.c (ixr 73 i hG.prods) (.c ((hG.prods.ext0 (hbr81.trans0 hXl132)).cellAt (i * 2 + 0) (by omega) (pcells_at S.ps i 0 p hpi (by omega))) (.c ((hG.prods.ext0 (hbr81.trans0 hXl132)).cellAt (i * 2 + 1) (by omega) (pcells_at S.ps i 1 p hpi (by omega))) .nil)))) fun a hS => ebx 1 #[I6 0, .slice none 0 0] 73 (some 16) hS fun a w139 hw140 hS => ?_
    have hn141 := Nat.ne_of_lt hB133.lt
    have hn142 := Nat.ne_of_lt hB134.lt
    have hn143 := Nat.ne_of_lt hb12.lt
    have hB144 := Blk.at' hw140 (hB133.alloc _)
    have hB145 := Blk.at' hw140 (hB134.alloc _)
    have hB146 := Blk.at' hw140 (hb12.alloc _)
    have hX147 : Ext [] wl132 w139 := by rw [hw140]; exact (Ext.refl _ _).alloc _
    have hG148 : Kb w72.heap.size w139 K2 := hK2.ext0 hX147
    have hG149 : Kt S wl87.heap.size w139 T295 K2 (bl T295.fL ++ (bl T295.wL ++ bl T295.yL)) := hKt2.ext0 hX147
    have hB150 := Blk.nw hw140
    have hs151 := hXl132.size
    have hE152 := hXl132.al hw140
    refine est 0 wl132.heap.size 0 [I6 p.l, p.rv] hS hB150 fun a w153 hw154 hS => ?_
    have hB155 := Blk.at' hw154 (hB144.updNe (Ne.symm hn141) _ _)
    have hB156 := Blk.at' hw154 (hB145.updNe (Ne.symm hn142) _ _)
    have hB157 := Blk.at' hw154 (hB146.updNe (Ne.symm hn143) _ _)
    have hB158 : Blk w153 wl132.heap.size 73 (#[I6 p.l, p.rv]) := hB150.up hw154
    have hX159 : Ext [wl132.heap.size] w139 w153 := by rw [hw154]; exact (Ext.refl _ _).updIn (.inl (by simp)) _ _
    have hG160 : Kb w72.heap.size w153 K2 := hG148.extT hX159 hB150 (by decide) (by decide) (by decide) (by decide) (by decide)
    have hG161 : Kt S wl87.heap.size w153 T295 K2 (bl T295.fL ++ (bl T295.wL ++ bl T295.yL)) := hG149.extT hX159 hB150 (by decide) (by decide) (by decide)
    have hE162 := hE152.ui hw154 hs151
    refine sge hK138 <| sq fun K163 hK163 => ?_
    refine region_set (G := (Option Addr) × Nat × Nat × (List Nat) × Nat) ww [.q (.lds [S.lv, S.nv, I6 S.st, S.pv]), .q .p, .q (.ld (p.rv)), .q .p, .q (.ld (.slice q455.a2 q455.n2 q455.k2)), .q .p, .q (.ld (I6 p.l)), .q (.run ((Po (bof (.slice q455.a2 q455.n2 q455.k2)) (oof (.slice q455.a2 q455.n2 q455.k2) + p.l.toNat * 1)))), .q (.ld (ug)), .e, .q .p, .q .p, .q .p, .e, .q .p, .e] [0, 0, 2, 0, 8, 0, 32, 120, 248, 511, 1023, 2047, 2047, 0, 12287, 32767] [9, 13, 15] (fun ⟨qb, qn, qc, ql, x19_13⟩ => ([(1, (Pv w.heap.size)), (6, (Pv wc55.heap.size)), (7, .slice K2.ab K2.an K2.ac), (8, .slice K2.hb K2.hn K2.hc), (9, .slice K2.ob K2.on K2.oc), (10, .slice K2.eb K2.en K2.ec), (11, I6 turn), (12, (Pv wc95.heap.size)), (15, I6 i), (78, .bool true), (16, (Pv wl132.heap.size)), (87, .agg S.ca), (88, (Po wl132.heap.size 1)), (89, p.rv), (90, (Po wc55.heap.size 2)), (91, .slice q455.a2 q455.n2 q455.k2), (92, (Pv wl132.heap.size)), (93, I6 p.l), (94, (Po (bof (.slice q455.a2 q455.n2 q455.k2)) (oof (.slice q455.a2 q455.n2 q455.k2) + p.l.toNat * 1))), (95, ug), (96, .tuple #[.slice qb qn qc, .agg #[I6 0, I6 0, .string ⟨#[]⟩]]), (86, .tuple #[.slice qb qn qc, .agg #[I6 0, I6 0, .string ⟨#[]⟩]]), (97, .slice qb qn qc), (98, .agg #[I6 0, I6 0, .string ⟨#[]⟩]), (18, (Pv x19_13)), (17, .slice qb qn qc)] : Fm)) (fun D ⟨qb, qn, qc, ql, x19_13⟩ w' => Ext [] w153 w' ∧ (D 15 = false → (D 13 = true → (Blk w' x19_13 34 (#[I6 0, I6 0, .string ⟨#[]⟩]) ∧ w153.heap.size ≤ x19_13)) ∧ (D 9 = true → HdO S p.r (ints lw) w153.heap.size w' qb qn qc ql) ∧ True) ∧ (D 15 = true → (Blk w' x19_13 34 (#[I6 0, I6 0, .string ⟨#[]⟩]) ∧ w153.heap.size ≤ x19_13) ∧ HdO S p.r (ints lw) w153.heap.size w' qb qn qc ql ∧ True)) (fun ⟨qb, qn, qc, ql, x19_13⟩ w' => [(0, [w'.cell? ⟨w.heap.size, 0, none⟩ = some (S.lv), w'.cell? ⟨w.heap.size, 1, none⟩ = some (S.nv), w'.cell? ⟨w.heap.size, 2, none⟩ = some (I6 S.st), w'.cell? ⟨w.heap.size, 3, none⟩ = some (S.pv)]), (2, [w'.cell? ⟨wl132.heap.size, 1, none⟩ = some (p.rv)]), (4, [w'.cell? ⟨wc55.heap.size, 2, none⟩ = some (.slice q455.a2 q455.n2 q455.k2)]), (6, [w'.cell? ⟨wl132.heap.size, 0, none⟩ = some (I6 p.l)]), (7, [Rv (Instr.indexAt 37 (.slice q455.a2 q455.n2 q455.k2) (I6 p.l)) ((Po (bof (.slice q455.a2 q455.n2 q455.k2)) (oof (.slice q455.a2 q455.n2 q455.k2) + p.l.toNat * 1))) w']), (8, [w'.cell? ⟨bof (.slice q455.a2 q455.n2 q455.k2), oof (.slice q455.a2 q455.n2 q455.k2) + p.l.toNat * 1, none⟩ = some (ug)])]) (none, 0, 0, [], 0) [1, 6, 7, 8, 9, 10, 11, 12, 15, 78, 16] [] hS (by kernel_rfl) (by kernel_rfl) (by kernel_rfl) (by kernel_rfl) (fun ⟨qb, qn, qc, ql, x19_13⟩ _ => by kernel_rfl) (by kernel_rfl) (by kernel_rfl) ⟨(Ext.refl _ _).drew, fun _ => ⟨fun h => (by cases h), fun h => (by cases h), trivial⟩, fun h => by cases h⟩ ?_ ?_ ?_
    ·rintro D ⟨qb, qn, qc, ql, x19_13⟩ w' ⟨hE, _, _⟩ xq hxq _ _
     refine AllI.mem ?_ xq hxq
     exact (.c (.c (((hB155.ext hE (by simp)) : Blk w' w.heap.size 26 (S.ca)).cell 0 rfl) (.c (((hB155.ext hE (by simp)) : Blk w' w.heap.size 26 (S.ca)).cell 1 rfl) (.c (((hB155.ext hE (by simp)) : Blk w' w.heap.size 26 (S.ca)).cell 2 rfl) (.c (((hB155.ext hE (by simp)) : Blk w' w.heap.size 26 (S.ca)).cell 3 rfl) .nil)))) (.c (.c (((hB158.ext hE (by simp)) : Blk w' wl132.heap.size 73 (#[I6 p.l, p.rv])).cell 1 rfl) .nil) (.c (.c (((hB156.ext hE (by simp)) : Blk w' wc55.heap.size 53 (#[.slice q455.a0 q455.n0 q455.k0, .slice q455.a1 q455.n1 q455.k1, .slice q455.a2 q455.n2 q455.k2, .slice q455.a3 q455.n3 q455.k3, .bool T.full])).cell 2 rfl) .nil) (.c (.c (((hB158.ext hE (by simp)) : Blk w' wl132.heap.size 73 (#[I6 p.l, p.rv])).cell 0 rfl) .nil) (.c (.c (ix_rd (e := 51) (j := p.l.toNat) hgr (by kernel_rfl) (by kernel_rfl) (Int.toNat_of_nonneg (by omega)).symm (by omega)) .nil) (.c (.c ((hgr.ext0 (hE162.trans0 hE)).cellAt (p.l.toNat * 1) (by omega) (by rw [Nat.mul_one]; exact hugi)) .nil) .nil))))))
    ·refine (.c ?_ (.c ?_ (.c ?_ .nil)))
     ·rintro D ⟨qb, qn, qc, ql, x19_13⟩ w' ⟨hE, hA, hB⟩ hDi hdp hnd
      have hDf : D 15 = false := hnd 15 (by simp) (by decide)
      obtain ⟨hA13, hR9, _⟩ := hA hDf
      refine upon_call (f := 33) (vs := [.agg S.ca, p.rv, ug]) (cap := #[]) (d := (some 96)) (by kernel_rfl) Tryd.call33 #[.agg S.ca, p.rv, ug] (by kernel_rfl) (Heads_ok (hG.ext0 ((hbr81.trans0 hE162).trans0 hE)) (Ext.refl _ _) (hT.ext0 ((hbr81.trans0 hE162).trans0 hE)) hok ((hG.right p hpm).ext0 ((hbr81.trans0 hE162).trans0 hE)) h16 (hI.right p hpm) (ts := ints lw) (by rw [its_ints]; exact hug.ext0 (hE162.trans0 hE)) (by omega) (fun z hz => by
       obtain ⟨t, ht, rfl⟩ := List.mem_map.1 hz
       exact Fo_tm hI ((hIW.has hlw).1 ht))) ?_
      rintro _ wn ⟨bsq, nq, cq, lq, rfl, hOq, hEn⟩
      refine ⟨_, rfl, (bsq, nq, cq, lq, x19_13), by kernel_rfl, by kernel_rfl, hE.trans0 hEn, fun _ => ⟨fun h => ⟨(hA13 h).1.ext hEn (by simp), (hA13 h).2⟩, fun _ => hOq.mono hE.size, trivial⟩, fun h => ?_⟩
      rw [show setS D 9 15 = D 15 from rfl, hDf] at h; cases h
     ·rintro D ⟨qb, qn, qc, ql, x19_13⟩ w' ⟨hE, hA, hB⟩ hDi hdp hnd
      have hDf : D 15 = false := hnd 15 (by simp) (by decide)
      obtain ⟨hA13, hR9, _⟩ := hA hDf
      have hEn : Ext [] w' (w'.alloc (.cells #[I6 0, I6 0, .string ⟨#[]⟩] 34)) := (Ext.refl _ _).alloc _
      refine upon_box (nb := w'.heap.size) (cs := #[I6 0, I6 0, .string ⟨#[]⟩]) (T := 34) (d := (some 18)) (by kernel_rfl) rfl ⟨(qb, qn, qc, ql, w'.heap.size), by kernel_rfl, by kernel_rfl, hE.trans0 hEn, fun _ => ⟨fun _ => ⟨Blk.new _ _ _, hE.size⟩, fun h => (hR9 h).ext0 hEn, trivial⟩, fun h => ?_⟩
      rw [show setS D 13 15 = D 15 from rfl, hDf] at h; cases h
     ·rintro D ⟨qb, qn, qc, ql, x19_13⟩ w' ⟨hE, hA, hB⟩ hDi hdp hnd
      obtain ⟨hA13, hR9, _⟩ := hA hDi
      obtain ⟨hf13, hs13⟩ := hA13 (hdp 13 (by simp) (by decide))
      refine upon_store (b := x19_13) (off := 0) (vs := [I6 0, I6 0, .string ⟨#[]⟩]) (by kernel_rfl) hf13 (by simp) ⟨(qb, qn, qc, ql, x19_13), by kernel_rfl, by kernel_rfl, hE.updIn (.inr hs13) _ _, fun h => ?_, fun _ => ⟨⟨hf13.upd _ _, hs13⟩, (hR9 (hdp 9 (by simp) (by decide))).updT hf13 (by decide) _, trivial⟩⟩
      rw [setS_self] at h; cases h
    rintro D ⟨qb, qn, qc, ql, x19_13⟩ a wz164 hS hall ⟨hEz164, _, hB⟩
    obtain ⟨⟨hz164_13, hy164_13⟩, hr164_9, _⟩ := hB (hall 15 (by simp))
    have hB167 := hB157.ext hEz164 (by simp)
    have hw164_13 : w72.heap.size ≤ x19_13 := Nat.le_trans hE162.size hy164_13
    have hE169 := hE162.trans0 hEz164
    have hG170 : Kb w72.heap.size wz164 K2 := hG160.ext0 hEz164
    have hG171 : Kt S wl87.heap.size wz164 T295 K2 (bl T295.fL ++ (bl T295.wL ++ bl T295.yL)) := hG161.ext0 hEz164
    replace hS := hS.kp [(1, (Pv w.heap.size)), (6, (Pv wc55.heap.size)), (7, .slice K2.ab K2.an K2.ac), (8, .slice K2.hb K2.hn K2.hc), (9, .slice K2.ob K2.on K2.oc), (10, .slice K2.eb K2.en K2.ec), (11, I6 turn), (12, (Pv wc95.heap.size)), (15, I6 i), (78, .bool true), (16, (Pv wl132.heap.size)), (18, (Pv x19_13)), (17, .slice qb qn qc)]
    refine hK163 _ _ <| sq fun K172 hK172 => sq fun K173 hK173 => ?_
    have hqm := hr164_9.is.max
    have hqn := hr164_9.row.len
    have hap18 := ap_new hG160 hG161 Td.pin hr164_9.row.new
    rcases (show (turn = 0) ∨ (0 < turn) from by omega) with ht0 | ht0
    ·
     refine rgn 16 <| sd ww [.p, .ld (I6 0), .p, .p, .p, .as (.bool false), .p, .no, .no, .no, .no, .no, .no, .no, .p, .p] [_, Value.bool (decide ((↑turn : Int) > 0)) = .bool false] [(114, .bool false)] [] 16 0 hS (hz164_13.k 0 (.c (as_f (by omega)) .nil)) fun a hS => sge hK173 ?_
     refine cond_f hS rfl ?_
     refine wpIn_skip <| hK172 _ _ <| sq fun K174 hK174 => sdq 2 [.p, .as (.bool true)] [Value.bool (((↑turn : Int) == 0)) = .bool true] [(116, .bool true)] [] hS (.c (as_eq_t (by omega)) .nil) fun a hS => ?_
     refine cond_t hS rfl ?_
     have hqhi : ∀ x ∈ ob (.slice qb qn qc), x < wz164.heap.size := hr164_9.row.own.lie
     have hHl0 : K2.LH.length = i := by
      rcases hHL2 with ⟨_, h⟩ | ⟨h, _⟩
      ·exact h
      ·omega
     refine rgn 7 <| sd ww [.p] [] [(117, .slice K2.hb K2.hn K2.hc)] [] 1 6 hS .nil fun a hS => eff_new ww (r := 5) (cs := #[]) (T := 3) (v := Value.slice (some ⟨wz164.heap.size, 0, none⟩) 0 0) (d := (some 118)) hS (by kernel_rfl) fun a w176 hw177 hS => ?_
     have hn180 := Nat.ne_of_lt hB167.lt
     have hn183 : ∀ x ∈ ob (.slice qb qn qc), wz164.heap.size ≠ x := fun x hx => Nat.ne_of_gt (hr164_9.row.own.lie x hx)
     have hB186 := Blk.at' hw177 (hB167.alloc _)
     have hB189 := OwnV.at' hw177 (hr164_9.row.own.alloc _)
     have hX190 : Ext [] wz164 w176 := by rw [hw177]; exact (Ext.refl _ _).alloc _
     have hG191 : Kb w72.heap.size w176 K2 := hG170.ext0 hX190
     have hG192 : Kt S wl87.heap.size w176 T295 K2 (bl T295.fL ++ (bl T295.wL ++ bl T295.yL)) := hG171.ext0 hX190
     have hG193 : Ext [] wz164 w176 := (Ext.refl [] wz164).trans0 hX190
     have hB194 := Blk.nw hw177
     have hs195 := hE169.size
     have hE196 := hE169.al hw177
     refine sd ww [.p] [] [(119, .slice qb qn qc)] [] 3 4 hS .nil fun a hS => eff_append_rd ww (r := 3) (d := (some 120)) (t := 51) (ty := 51) (e := 3) (size := 1) (bytes := 8) (len := 0) (k := qn) (z := #[I6 0]) (v := Value.slice (some ⟨wz164.heap.size, 0, none⟩) 0 0) (u := .slice qb qn qc) (xs := ([])) (news := (ivs ql)) hS (by kernel_rfl) (by kernel_rfl) (by kernel_rfl) (by kernel_rfl) (OwnR.of_blk hB194 (by simp) (by decide)).v hB189.rd (ivs_one _) (by omega) (by omega) fun bs197 cp197 a wa197 hA197 hS => ?_
     have hEa197 : Ext [wz164.heap.size] w176 wa197 := hA197.ext
     rw [Nat.zero_add] at hS
     have hO197 : OwnV wa197 3 1 (.slice bs197 qn cp197) qn (ivs ql) := by have h := hA197.own; simpa using h
     have hB200 := hB186.ext hEa197 (by simpa using hn180)
     have hB203 := hB189.ext hEa197 (fun x hx hm => by simp at hm; exact hn183 x hx hm.symm)
     have hE204 : Ext [] w72 wa197 := hE196.trans hEa197 (fun b hb => by simp at hb; subst hb; exact .inr hs195)
     have hnw197 : ∀ x ∈ ob (.slice bs197 qn cp197), w72.heap.size ≤ x := fun x hx => by
      rcases hA197.fresh x (by simpa using hx) with h | h
      ·have h : x = wz164.heap.size := by simpa [ob] using h
       rw [h]; exact hs195
      ·exact Nat.le_trans hE196.size h
     have hG205 : Kb w72.heap.size wa197 K2 := hG191.extN hG170 hEa197 (fun x hx => by simp at hx; omega)
     have hG206 : Kt S wl87.heap.size wa197 T295 K2 (bl T295.fL ++ (bl T295.wL ++ bl T295.yL)) := hG192.extN hG171 hEa197 (fun x hx => by simp at hx; omega)
     have hG207 : Ext [] wz164 wa197 := hG193.trans hEa197 (fun b hb => by simp at hb; rw [hb]; exact .inr (Nat.le_refl _))
     have hG208 : True := trivial
     have hnr : ∀ x ∈ ob (.slice bs197 qn cp197), wz164.heap.size ≤ x := fun x hx => by
      rcases hA197.fresh x (by simpa using hx) with h | h
      ·have h : x = wz164.heap.size := by simpa [ob] using h
       omega
      ·exact Nat.le_trans hG193.size h
     refine eff_new ww (r := 2) (cs := #[.slice bs197 qn cp197]) (T := 51) (v := Value.slice (some ⟨wa197.heap.size, 0, none⟩) 1 1) (d := (some 121)) hS (by kernel_rfl) fun a w209 hw210 hS => ?_
     have hB220 := Blk.at' hw210 (hB200.alloc _)
     have hB223 := OwnV.at' hw210 (hB203.alloc _)
     have hB224 := OwnV.at' hw210 (hO197.alloc _)
     have hX225 : Ext [] wa197 w209 := by rw [hw210]; exact (Ext.refl _ _).alloc _
     have hG226 : Kb w72.heap.size w209 K2 := hG205.ext0 hX225
     have hG227 : Kt S wl87.heap.size w209 T295 K2 (bl T295.fL ++ (bl T295.wL ++ bl T295.yL)) := hG206.ext0 hX225
     have hB228 := Blk.nw hw210
     have hs229 := hE204.size
     have hE230 := hE204.al hw210
     refine eff_append2 ww (r := 1) (d := (some 122)) (t := 37) (ty := 37) (e := 51) (size := 1) (bytes := 24) (len := K2.hn) (b := wa197.heap.size) (off := 0) (k := 1) (c := 1) (z := #[.slice none 0 0]) (v := Value.slice K2.hb K2.hn K2.hc) (xs := (K2.LH.map Rw.v)) [.slice bs197 qn cp197] hS (by kernel_rfl) (by kernel_rfl) (by kernel_rfl) (by kernel_rfl) (by kernel_rfl) hG226.h.own (by simp) (fun j u hu => by rw [Nat.zero_add]; exact hB228.cell j (by simpa using hu)) rfl (by omega) (by omega) (by omega) fun ga231 ca231 a wa231 hOa231 hEa231 hFa231 hS => ?_
     have hB234 := hB220.ext hEa231 (hG226.h.own.notin hB220 (by decide))
     have hB237 := hB223.ext hEa231 (hB223.disj hG226.h.own (by decide))
     have hE239 : Ext [] w72 wa231 := hE230.trans hEa231 (fun b hb => .inr ((fun b hb => hG226.h.new b (by rw [ob_oa] at hb; exact hb)) b hb))
     let Ka240 : Kx := { K2 with hb := some ⟨ga231, 0, none⟩, hn := K2.hn + 1, hc := ca231, LH := K2.LH ++ [⟨.slice bs197 qn cp197, qn, ivs ql⟩] }
     obtain ⟨hKa240, hKb240⟩ : Kb w72.heap.size wa231 Ka240 ∧ Kt S wl87.heap.size wa231 T295 Ka240 (bl T295.fL ++ (bl T295.wL ++ bl T295.yL)) := hG227.headH hG226 hB224 hnw197 (ap_new hG170 hG171 Td.pin hnr) (by omega) hEa231 hOa231 hFa231
     have hKn231 : Ka240.hn = K2.hn + 1 := rfl
     refine sg ww [.p] [] [(1, (Pv w.heap.size)), (6, (Pv wc55.heap.size)), (7, .slice K2.ab K2.an K2.ac), (8, Sl ga231 (K2.hn + 1) ca231), (9, .slice K2.ob K2.on K2.oc), (10, .slice K2.eb K2.en K2.ec), (11, I6 turn), (12, (Pv wc95.heap.size)), (15, I6 i), (78, .bool true), (16, (Pv wl132.heap.size)), (18, (Pv x19_13)), (17, .slice qb qn qc), (114, .bool false), (116, .bool true)] 7 0 hS .nil fun a hS => sge hK174 <| rgn 5 <| sd ww [.p, .p] [] [(123, .slice K2.ab K2.an K2.ac), (124, .slice qb qn qc)] [] 2 3 hS .nil fun a hS => eff_new ww (r := 2) (cs := #[.slice qb qn qc]) (T := 51) (v := Value.slice (some ⟨wa231.heap.size, 0, none⟩) 1 1) (d := (some 125)) hS (by kernel_rfl) fun a w241 hw242 hS => ?_
     have hB251 := Blk.at' hw242 (hB234.alloc _)
     have hB254 := OwnV.at' hw242 (hB237.alloc _)
     have hX255 : Ext [] wa231 w241 := by rw [hw242]; exact (Ext.refl _ _).alloc _
     have hG256 : Kb w72.heap.size w241 Ka240 := hKa240.ext0 hX255
     have hG257 : Kt S wl87.heap.size w241 T295 Ka240 (bl T295.fL ++ (bl T295.wL ++ bl T295.yL)) := hKb240.ext0 hX255
     have hB258 := Blk.nw hw242
     have hs259 := hE239.size
     have hE260 := hE239.al hw242
     refine eff_append2 ww (r := 1) (d := (some 126)) (t := 37) (ty := 37) (e := 51) (size := 1) (bytes := 24) (len := K2.an) (b := wa231.heap.size) (off := 0) (k := 1) (c := 1) (z := #[.slice none 0 0]) (v := Value.slice K2.ab K2.an K2.ac) (xs := (K2.LA.map Rw.v)) [.slice qb qn qc] hS (by kernel_rfl) (by kernel_rfl) (by kernel_rfl) (by kernel_rfl) (by kernel_rfl) hG256.a.own (by simp) (fun j u hu => by rw [Nat.zero_add]; exact hB258.cell j (by simpa using hu)) rfl (by omega) (by omega) (by omega) fun ga261 ca261 a wa261 hOa261 hEa261 hFa261 hS => ?_
     have hB264 := hB251.ext hEa261 (hG256.a.own.notin hB251 (by decide))
     have hE268 : Ext [] w72 wa261 := hE260.trans hEa261 (fun b hb => .inr ((fun b hb => hG256.a.new b (by rw [ob_oa] at hb; exact hb)) b hb))
     let Ka269 : Kx := { Ka240 with ab := some ⟨ga261, 0, none⟩, an := Ka240.an + 1, ac := ca261, LA := Ka240.LA ++ [⟨.slice qb qn qc, qn, ivs ql⟩] }
     obtain ⟨hKa269, hKb269⟩ : Kb w72.heap.size wa261 Ka269 ∧ Kt S wl87.heap.size wa261 T295 Ka269 (bl T295.fL ++ (bl T295.wL ++ bl T295.yL)) := hG257.headA hG256 hB254 (fun x hx => Nat.le_trans hE162.size (hr164_9.row.new x hx)) (fun x hx => ⟨(hap18 x hx).1, by
      show x ∉ bl (K2.LH ++ [⟨.slice bs197 qn cp197, qn, ivs ql⟩])
      rw [bl_app, bl_one]
      intro hm
      rcases List.mem_append.1 hm with hm | hm
      ·exact (hap18 x hx).2.1 hm
      ·have h5 := hqhi x hx; have h6 := hnr x hm; omega, (hap18 x hx).2.2⟩) (by omega) hEa261 hOa261 hFa261
     have hKn261 : Ka269.an = Ka240.an + 1 := rfl
     refine sd ww [.p] [] [(7, Sl ga261 (K2.an + 1) ca261)] [] 5 0 hS .nil fun a hS => seg_end <| inBlock_normal <| hK137 _ _ <| rgn 3 <| sd ww [.p, .as (I6 (↑i + 1)), .p] [_] [(15, I6 (↑i + 1))] [] 3 0 hS (as6 (↑i + 1)) fun a hS => seg_end ?_
     have hsn := hsz2
     have hHn : (turn = 0 ∧ Ka269.LH.length = i + 1) ∨ (0 < turn ∧ ∀ j, j < S.ps.length → j < 8 → j < Ka269.LH.length) := .inl ⟨ht0, by
      show (K2.LH ++ [_]).length = _
      rw [List.length_append, hHl0]; rfl⟩
     exact ⟨(i + 1, Ka269), ⟨hS.kp [(1, (Pv w.heap.size)), (6, (Pv wc55.heap.size)), (7, Sl ga261 (K2.an + 1) ca261), (8, Sl ga231 (K2.hn + 1) ca231), (9, .slice K2.ob K2.on K2.oc), (10, .slice K2.eb K2.en K2.ec), (11, I6 turn), (12, (Pv wc95.heap.size)), (15, I6 (↑i + 1))], hE268, by omega, by omega, hKa269, hKb269, hB264, hHn, (hHW2.snoc hHl0 hqn hpi hlw hr164_9.is), ⟨by show K2.an + 1 ≤ _; omega, by show K2.on ≤ _; omega, by show K2.en ≤ _; omega⟩⟩, by simp only; omega⟩
    ·
     have hHi : i < K2.LH.length := by
      rcases hHL2 with ⟨h, _⟩ | ⟨_, h⟩
      ·omega
      ·exact h i hi1 hi8
     obtain ⟨uh, huh, hur⟩ := hG170.h.sameH hHW2 (j := i) (by omega) hpi hlw hr164_9.is
     refine rgn 16 <| sd ww [.p, .ld (I6 0), .p, .p, .p, .as (.bool true), .p, .p, .p, .p, .run ((Po (bof (.slice K2.hb K2.hn K2.hc)) (0 + i * 1))), .ld (uh)] [_, Value.bool (decide ((↑turn : Int) > 0)) = .bool true, Rv (Instr.indexAt 37 (.slice K2.hb K2.hn K2.hc) (I6 i)) ((Po (bof (.slice K2.hb K2.hn K2.hc)) (0 + i * 1))) wz164, wz164.cell? ⟨bof (.slice K2.hb K2.hn K2.hc), 0 + i * 1, none⟩ = some (uh)] [(102, .bool false), (105, .bool true), (106, .slice qb qn qc), (110, uh)] [] 12 4 hS (hz164_13.k 0 (.c (as_t (by omega)) (.c (ix_own (j := i) (hG170.h.own) (by kernel_rfl) (by kernel_rfl) rfl (by omega)) (.c (OwnV.cellAt hG170.h.own _ (by rw [Nat.zero_add, Nat.mul_one]; exact huh)) .nil)))) fun a hS => ecl 3 (some 111) hS Tryd.call35 #[.slice qb qn qc, uh] (SameInts_eq (hr164_9.row.own : OwnV wz164 3 1 (.slice qb qn qc) qn (ivs ql)).rd hur (by omega)) ?_
     rintro _ wc270 ⟨rfl, hEc270⟩
     refine ⟨_, rfl, fun a hS => ?_⟩
     have hB273 := hB167.ext hEc270 (by simp)
     have hB276 := hr164_9.row.own.ext hEc270 (by simp)
     have hG278 : Kb w72.heap.size wc270 K2 := hG170.ext0 hEc270
     have hG279 : Kt S wl87.heap.size wc270 T295 K2 (bl T295.fL ++ (bl T295.wL ++ bl T295.yL)) := hG171.ext0 hEc270
     have hG280 : RdV wc270 1 uh ql.length (ivs ql) := hur.ext0 hEc270
     have hE281 := hE169.trans0 hEc270
     refine sd ww [.p, .p, .p] [] [(114, .bool false)] [] 16 0 hS .nil fun a hS => sge hK173 ?_
     refine cond_f hS rfl ?_
     refine wpIn_skip <| hK172 _ _ <| sq fun K282 hK282 => sdq 2 [.p, .as (.bool false)] [Value.bool (((↑turn : Int) == 0)) = .bool false] [(116, .bool false)] [] hS (.c (as_eq_f (by omega)) .nil) fun a hS => ?_
     refine cond_f hS rfl ?_
     refine wpIn_skip <| hK282 _ _ <| rgn 5 <| sd ww [.p, .p] [] [(123, .slice K2.ab K2.an K2.ac), (124, .slice qb qn qc)] [] 2 3 hS .nil fun a hS => eff_new ww (r := 2) (cs := #[.slice qb qn qc]) (T := 51) (v := Value.slice (some ⟨wc270.heap.size, 0, none⟩) 1 1) (d := (some 125)) hS (by kernel_rfl) fun a w284 hw285 hS => ?_
     have hB294 := Blk.at' hw285 (hB273.alloc _)
     have hB297 := OwnV.at' hw285 (hB276.alloc _)
     have hX298 : Ext [] wc270 w284 := by rw [hw285]; exact (Ext.refl _ _).alloc _
     have hG299 : Kb w72.heap.size w284 K2 := hG278.ext0 hX298
     have hG300 : Kt S wl87.heap.size w284 T295 K2 (bl T295.fL ++ (bl T295.wL ++ bl T295.yL)) := hG279.ext0 hX298
     have hB301 := Blk.nw hw285
     have hs302 := hE281.size
     have hE303 := hE281.al hw285
     refine eff_append2 ww (r := 1) (d := (some 126)) (t := 37) (ty := 37) (e := 51) (size := 1) (bytes := 24) (len := K2.an) (b := wc270.heap.size) (off := 0) (k := 1) (c := 1) (z := #[.slice none 0 0]) (v := Value.slice K2.ab K2.an K2.ac) (xs := (K2.LA.map Rw.v)) [.slice qb qn qc] hS (by kernel_rfl) (by kernel_rfl) (by kernel_rfl) (by kernel_rfl) (by kernel_rfl) hG299.a.own (by simp) (fun j u hu => by rw [Nat.zero_add]; exact hB301.cell j (by simpa using hu)) rfl (by omega) (by omega) (by omega) fun ga304 ca304 a wa304 hOa304 hEa304 hFa304 hS => ?_
     have hB307 := hB294.ext hEa304 (hG299.a.own.notin hB294 (by decide))
     have hE311 : Ext [] w72 wa304 := hE303.trans hEa304 (fun b hb => .inr ((fun b hb => hG299.a.new b (by rw [ob_oa] at hb; exact hb)) b hb))
     let Ka312 : Kx := { K2 with ab := some ⟨ga304, 0, none⟩, an := K2.an + 1, ac := ca304, LA := K2.LA ++ [⟨.slice qb qn qc, qn, ivs ql⟩] }
     obtain ⟨hKa312, hKb312⟩ : Kb w72.heap.size wa304 Ka312 ∧ Kt S wl87.heap.size wa304 T295 Ka312 (bl T295.fL ++ (bl T295.wL ++ bl T295.yL)) := hG300.headA hG299 hB297 (fun x hx => Nat.le_trans hE162.size (hr164_9.row.new x hx)) hap18 (by omega) hEa304 hOa304 hFa304
     have hKn304 : Ka312.an = K2.an + 1 := rfl
     refine sg ww [.p] [] [(1, (Pv w.heap.size)), (6, (Pv wc55.heap.size)), (7, Sl ga304 (K2.an + 1) ca304), (8, .slice K2.hb K2.hn K2.hc), (9, .slice K2.ob K2.on K2.oc), (10, .slice K2.eb K2.en K2.ec), (11, I6 turn), (12, (Pv wc95.heap.size)), (15, I6 i), (78, .bool true), (16, (Pv wl132.heap.size)), (18, (Pv x19_13)), (17, .slice qb qn qc), (114, .bool false), (116, .bool false)] 5 0 hS .nil fun a hS => seg_end <| inBlock_normal <| hK137 _ _ <| rgn 3 <| sd ww [.p, .as (I6 (↑i + 1)), .p] [_] [(15, I6 (↑i + 1))] [] 3 0 hS (as6 (↑i + 1)) fun a hS => seg_end ?_
     have hsn := hsz2
     have hHn : (turn = 0 ∧ Ka312.LH.length = i + 1) ∨ (0 < turn ∧ ∀ j, j < S.ps.length → j < 8 → j < Ka312.LH.length) := by
      rcases hHL2 with ⟨h, _⟩ | h
      ·omega
      ·exact .inr h
     exact ⟨(i + 1, Ka312), ⟨hS.kp [(1, (Pv w.heap.size)), (6, (Pv wc55.heap.size)), (7, Sl ga304 (K2.an + 1) ca304), (8, .slice K2.hb K2.hn K2.hc), (9, .slice K2.ob K2.on K2.oc), (10, .slice K2.eb K2.en K2.ec), (11, I6 turn), (12, (Pv wc95.heap.size)), (15, I6 (↑i + 1))], hE311, by omega, by omega, hKa312, hKb312, hB307, hHn, hHW2, ⟨by show K2.an + 1 ≤ _; omega, by show K2.on ≤ _; omega, by show K2.en ≤ _; omega⟩⟩, by simp only; omega⟩
   ·
    have hHe : ∀ j, j < S.ps.length → j < 8 → j < K2.LH.length := by
     rcases hHL2 with ⟨_, h⟩ | ⟨_, h⟩
     ·intro j h1 h2; omega
     ·exact h
    refine rgn 9 <| sd ww [.p, .p, .ld (S.pv), .run (I6 S.ps.length), .as (.bool false), .p, .no, .no, .p] [_, Rv (Builtin.len_ #[24] 3 #[S.pv]) (I6 S.ps.length) wl132, Value.bool (decide ((↑i : Int) < ↑S.ps.length)) = .bool false] [(78, .bool false)] [] 9 0 hS (hB133.k 3 (.c (rlr 73 hG.prods) (.c (as_f (by omega)) .nil))) fun a hS => sge hK136 ?_
    refine cond_f hS rfl ?_
    refine xt2 <| hK130 _ _ <| sq fun K313 hK313 => rgn 5 <| sd ww [.p, .p, .ld (.slice T295.fb S.ns.length T295.fc)] [_] [(127, .slice K2.ab K2.an K2.ac), (129, .slice T295.fb S.ns.length T295.fc)] [] 3 2 hS (hb12.k 1 .nil) fun a hS => eff_append_rd ww (r := 1) (d := (some 130)) (t := 37) (ty := 37) (e := 51) (size := 1) (bytes := 24) (len := K2.an) (k := S.ns.length) (z := #[.slice none 0 0]) (v := Value.slice K2.ab K2.an K2.ac) (u := .slice T295.fb S.ns.length T295.fc) (xs := (K2.LA.map Rw.v)) (news := (T295.fL.map Rw.v)) hS (by kernel_rfl) (by kernel_rfl) (by kernel_rfl) (by kernel_rfl) hK2.a.own hKt2.td.lf.own.rd (Fam.oneA hKt2.td.lf.fam) (by omega) (by omega) fun bs314 cp314 a wa314 hA314 hS => ?_
    have hEa314 : Ext (ob (Value.slice K2.ab K2.an K2.ac)) wl132 wa314 := hA314.ext
    have hO314 := hA314.own
    have hB317 := hb12.ext hEa314 (hK2.a.own.notin hb12 (by decide))
    have hE318 : Ext [] w72 wa314 := hXl132.trans hEa314 (fun b hb => .inr ((fun b hb => hK2.a.new b (by rw [ob_oa] at hb; exact hb)) b hb))
    have hnw314 : ∀ x ∈ ob (.slice bs314 (K2.an + S.ns.length) cp314), w72.heap.size ≤ x := fun x hx => by
     rcases hA314.fresh x (by simpa using hx) with h | h
     ·exact (fun b hb => hK2.a.new b (by rw [ob_oa] at hb; exact hb)) x h
     ·exact Nat.le_trans hXl132.size h
    have hG319 : True := trivial
    let Ka320 : Kx := { K2 with ab := bs314, an := K2.an + S.ns.length, ac := cp314, LA := K2.LA ++ T295.fL }
    obtain ⟨hKa320, hKb320⟩ : Kb w72.heap.size wa314 Ka320 ∧ Kt S wl87.heap.size wa314 T295 Ka320 (bl T295.wL ++ bl T295.yL) := hKt2.rowF hK2 hN12 hA314
    have hKn314 : Ka320.an = K2.an + S.ns.length := rfl
    refine sd ww [.p] [] [(7, .slice bs314 (K2.an + S.ns.length) cp314)] [] 5 0 hS .nil fun a hS => sge hK313 <| sq fun K321 hK321 => rgn 5 <| sd ww [.p, .p, .ld (.slice T295.wb S.ns.length T295.wc)] [_] [(131, .slice bs314 (K2.an + S.ns.length) cp314), (133, .slice T295.wb S.ns.length T295.wc)] [] 3 2 hS (hB317.k 2 .nil) fun a hS => eff_append_rd ww (r := 1) (d := (some 134)) (t := 37) (ty := 37) (e := 51) (size := 1) (bytes := 24) (len := (K2.an + S.ns.length)) (k := S.ns.length) (z := #[.slice none 0 0]) (v := Value.slice bs314 (K2.an + S.ns.length) cp314) (u := .slice T295.wb S.ns.length T295.wc) (xs := (Ka320.LA.map Rw.v)) (news := (T295.wL.map Rw.v)) hS (by kernel_rfl) (by kernel_rfl) (by kernel_rfl) (by kernel_rfl) hKa320.a.own hKb320.td.lw.own.rd (Fam.oneA hKb320.td.lw.fam) (by omega) (by omega) fun bs322 cp322 a wa322 hA322 hS => ?_
    have hEa322 : Ext (ob (Value.slice bs314 (K2.an + S.ns.length) cp314)) wa314 wa322 := hA322.ext
    have hO322 := hA322.own
    have hB325 := hB317.ext hEa322 (hKa320.a.own.notin hB317 (by decide))
    have hE326 : Ext [] w72 wa322 := hE318.trans hEa322 (fun b hb => .inr ((fun b hb => hKa320.a.new b (by rw [ob_oa] at hb; exact hb)) b hb))
    have hnw322 : ∀ x ∈ ob (.slice bs322 ((K2.an + S.ns.length) + S.ns.length) cp322), w72.heap.size ≤ x := fun x hx => by
     rcases hA322.fresh x (by simpa using hx) with h | h
     ·exact (fun b hb => hKa320.a.new b (by rw [ob_oa] at hb; exact hb)) x h
     ·exact Nat.le_trans hE318.size h
    have hG327 : True := trivial
    let Ka328 : Kx := { Ka320 with ab := bs322, an := Ka320.an + S.ns.length, ac := cp322, LA := Ka320.LA ++ T295.wL }
    obtain ⟨hKa328, hKb328⟩ : Kb w72.heap.size wa322 Ka328 ∧ Kt S wl87.heap.size wa322 T295 Ka328 (bl T295.yL) := hKb320.rowW hKa320 hN12 hA322
    have hKn322 : Ka328.an = Ka320.an + S.ns.length := rfl
    refine sd ww [.p] [] [(7, .slice bs322 ((K2.an + S.ns.length) + S.ns.length) cp322)] [] 5 0 hS .nil fun a hS => sge hK321 <| sq fun K329 hK329 => rgn 5 <| sd ww [.p, .p, .ld (.slice T295.yb T295.yn T295.yc)] [_] [(135, .slice bs322 ((K2.an + S.ns.length) + S.ns.length) cp322), (137, .slice T295.yb T295.yn T295.yc)] [] 3 2 hS (hB325.k 3 .nil) fun a hS => eff_append_rd ww (r := 1) (d := (some 138)) (t := 37) (ty := 37) (e := 51) (size := 1) (bytes := 24) (len := ((K2.an + S.ns.length) + S.ns.length)) (k := T295.yn) (z := #[.slice none 0 0]) (v := Value.slice bs322 ((K2.an + S.ns.length) + S.ns.length) cp322) (u := .slice T295.yb T295.yn T295.yc) (xs := (Ka328.LA.map Rw.v)) (news := (T295.yL.map Rw.v)) hS (by kernel_rfl) (by kernel_rfl) (by kernel_rfl) (by kernel_rfl) hKa328.a.own hKb328.td.ly.own.rd (Fam.oneA hKb328.td.ly.fam) (by omega) (by omega) fun bs330 cp330 a wa330 hA330 hS => ?_
    have hEa330 : Ext (ob (Value.slice bs322 ((K2.an + S.ns.length) + S.ns.length) cp322)) wa322 wa330 := hA330.ext
    have hO330 := hA330.own
    have hB333 := hB325.ext hEa330 (hKa328.a.own.notin hB325 (by decide))
    have hE334 : Ext [] w72 wa330 := hE326.trans hEa330 (fun b hb => .inr ((fun b hb => hKa328.a.new b (by rw [ob_oa] at hb; exact hb)) b hb))
    have hnw330 : ∀ x ∈ ob (.slice bs330 (((K2.an + S.ns.length) + S.ns.length) + T295.yn) cp330), w72.heap.size ≤ x := fun x hx => by
     rcases hA330.fresh x (by simpa using hx) with h | h
     ·exact (fun b hb => hKa328.a.new b (by rw [ob_oa] at hb; exact hb)) x h
     ·exact Nat.le_trans hE326.size h
    have hG335 : True := trivial
    let Ka336 : Kx := { Ka328 with ab := bs330, an := Ka328.an + T295.yn, ac := cp330, LA := Ka328.LA ++ T295.yL }
    obtain ⟨hKa336, hKb336⟩ : Kb w72.heap.size wa330 Ka336 ∧ Kt S wl87.heap.size wa330 T295 Ka336 ([]) := hKb328.rowY hKa328 hN12 hA330
    have hKn330 : Ka336.an = Ka328.an + T295.yn := rfl
    refine sg ww [.p] [] [(1, (Pv w.heap.size)), (6, (Pv wc55.heap.size)), (7, .slice bs330 (((K2.an + S.ns.length) + S.ns.length) + T295.yn) cp330), (8, .slice K2.hb K2.hn K2.hc), (9, .slice K2.ob K2.on K2.oc), (10, .slice K2.eb K2.en K2.ec), (11, I6 turn), (12, (Pv wc95.heap.size)), (15, I6 i), (78, .bool false)] 5 0 hS .nil fun a hS => sge hK329 <| sq fun K337 hK337 => rgn 10 <| sd ww [.p, .p, .ld (.slice T295.fb S.ns.length T295.fc), .p, .ld (.slice T295.wb S.ns.length T295.wc), .p, .ld (.slice T295.yb T295.yn T295.yc)] [_, _, _] [(139, .slice K2.ob K2.on K2.oc), (141, .slice T295.fb S.ns.length T295.fc), (143, .slice T295.wb S.ns.length T295.wc), (145, .slice T295.yb T295.yn T295.yc)] [] 7 3 hS (hB333.k 1 (hB333.k 2 (hB333.k 3 .nil))) fun a hS => eff_new ww (r := 2) (cs := #[.slice T295.fb S.ns.length T295.fc, .slice T295.wb S.ns.length T295.wc, .slice T295.yb T295.yn T295.yc]) (T := 37) (v := Value.slice (some ⟨wa330.heap.size, 0, none⟩) 3 3) (d := (some 146)) hS (by kernel_rfl) fun a w338 hw339 hS => ?_
    have hB345 := Blk.at' hw339 (hB333.alloc _)
    have hX346 : Ext [] wa330 w338 := by rw [hw339]; exact (Ext.refl _ _).alloc _
    have hG347 : Kb w72.heap.size w338 Ka336 := hKa336.ext0 hX346
    have hG348 : Kt S wl87.heap.size w338 T295 Ka336 ([]) := hKb336.ext0 hX346
    have hB349 := Blk.nw hw339
    have hs350 := hE334.size
    have hE351 := hE334.al hw339
    refine eff_append2 ww (r := 1) (d := (some 147)) (t := 90) (ty := 90) (e := 37) (size := 1) (bytes := 24) (len := K2.on) (b := wa330.heap.size) (off := 0) (k := 3) (c := 3) (z := #[.slice none 0 0]) (v := Value.slice K2.ob K2.on K2.oc) (xs := (K2.LO.map Rw.v)) [.slice T295.fb S.ns.length T295.fc, .slice T295.wb S.ns.length T295.wc, .slice T295.yb T295.yn T295.yc] hS (by kernel_rfl) (by kernel_rfl) (by kernel_rfl) (by kernel_rfl) (by kernel_rfl) hG347.o.own (by simp) (fun j u hu => by rw [Nat.zero_add]; exact hB349.cell j (by simpa using hu)) rfl (by omega) (by omega) (by omega) fun ga352 ca352 a wa352 hOa352 hEa352 hFa352 hS => ?_
    have hB355 := hB345.ext hEa352 (hG347.o.own.notin hB345 (by decide))
    have hE356 : Ext [] w72 wa352 := hE351.trans hEa352 (fun b hb => .inr ((fun b hb => hG347.o.new b (by rw [ob_oa] at hb; exact hb)) b hb))
    let Ka357 : Kx := { Ka336 with ob := some ⟨ga352, 0, none⟩, on := Ka336.on + 3, oc := ca352, LO := Ka336.LO ++ Td.rows S T295 }
    obtain ⟨hKa357, hKb357⟩ : Kb w72.heap.size wa352 Ka357 ∧ Kt S wl87.heap.size wa352 T295 { Ka336 with ob := some ⟨ga352, 0, none⟩, on := Ka336.on + 3, oc := ca352, LO := Ka336.LO } [] := hG348.rowO hG347 hN12 hnmax hEa352 hOa352 hFa352
    have hKn352 : Ka357.on = Ka336.on + 3 := rfl
    have hte := hKb357.te
    refine sd ww [.p] [] [(9, Sl ga352 (K2.on + 3) ca352)] [] 10 0 hS .nil fun a hS => sge hK337 <| rgn 6 <| sd ww [.p, .p, .ld (Sn S T295.eg)] [_] [(148, .slice K2.eb K2.en K2.ec), (150, Sn S T295.eg)] [] 3 3 hS (hB355.k 0 .nil) fun a hS => eff_new ww (r := 2) (cs := #[Sn S T295.eg]) (T := 31) (v := Value.slice (some ⟨wa352.heap.size, 0, none⟩) 1 1) (d := (some 151)) hS (by kernel_rfl) fun a w358 hw359 hS => ?_
    have hX366 : Ext [] wa352 w358 := by rw [hw359]; exact (Ext.refl _ _).alloc _
    have hG367 : Kb w72.heap.size w358 Ka357 := hKa357.ext0 hX366
    have hG368 : TdOk S wl87.heap.size w358 T295 := hKb357.td.ext0 hX366
    have hB369 := Blk.nw hw359
    have hs370 := hE356.size
    have hE371 := hE356.al hw359
    refine eff_append2 ww (r := 1) (d := (some 152)) (t := 91) (ty := 91) (e := 31) (size := 1) (bytes := 24) (len := K2.en) (b := wa352.heap.size) (off := 0) (k := 1) (c := 1) (z := #[.slice none 0 0]) (v := Value.slice K2.eb K2.en K2.ec) (xs := (K2.LE.map Rw.v)) [Sn S T295.eg] hS (by kernel_rfl) (by kernel_rfl) (by kernel_rfl) (by kernel_rfl) (by kernel_rfl) hG367.e.own (by simp) (fun j u hu => by rw [Nat.zero_add]; exact hB369.cell j (by simpa using hu)) rfl (by omega) (by omega) (by omega) fun ga372 ca372 a wa372 hOa372 hEa372 hFa372 hS => ?_
    have hE376 : Ext [] w72 wa372 := hE371.trans hEa372 (fun b hb => .inr ((fun b hb => hG367.e.new b (by rw [ob_oa] at hb; exact hb)) b hb))
    let Ka377 : Kx := { Ka357 with eb := some ⟨ga372, 0, none⟩, en := Ka357.en + 1, ec := ca372, LE := Ka357.LE ++ [⟨Sn S T295.eg, S.ns.length, bls T295.es⟩] }
    have hKa377 : Kb w72.heap.size wa372 Ka377 := hG367.rowE hG368 hte hN12 hnmax hEa372 hOa372 hFa372
    have hKn372 : Ka377.en = Ka357.en + 1 := rfl
    refine sd ww [.p] [] [(10, Sl ga372 (K2.en + 1) ca372)] [] 6 0 hS .nil fun a hS => seg_end <| inBlock_normal <| hK93 _ _ <| rgn 3 <| sd ww [.p, .as (I6 (↑turn + 1)), .p] [_] [(11, I6 (↑turn + 1))] [] 3 0 hS (as6 (↑turn + 1)) fun a hS => seg_end ?_
    exact ⟨((turn + 1), Ka377), ⟨hS.kp [(1, (Pv w.heap.size)), (6, (Pv wc55.heap.size)), (7, .slice bs330 (((K2.an + S.ns.length) + S.ns.length) + T295.yn) cp330), (8, .slice K2.hb K2.hn K2.hc), (9, Sl ga352 (K2.on + 3) ca352), (10, Sl ga372 (K2.en + 1) ca372), (11, I6 (↑turn + 1))], hE376, by omega, hKa377, .inr ⟨Nat.succ_pos _, hHe⟩, hHW2, ⟨by show K2.an + S.ns.length + S.ns.length + T295.yn ≤ _; omega, by show K2.on + 3 ≤ _; omega, by show K2.en + 1 ≤ _; omega⟩⟩, by simp only; omega⟩
   ·
    have hHe : ∀ j, j < S.ps.length → j < 8 → j < K2.LH.length := by
     rcases hHL2 with ⟨_, h⟩ | ⟨_, h⟩
     ·intro j h1 h2; omega
     ·exact h
    refine rgn 9 <| sd ww [.p, .p, .ld (S.pv), .run (I6 S.ps.length), .as (.bool true), .p, .p, .as (.bool false), .p] [_, Rv (Builtin.len_ #[24] 3 #[S.pv]) (I6 S.ps.length) wl132, Value.bool (decide ((↑i : Int) < ↑S.ps.length)) = .bool true, Value.bool (decide ((↑i : Int) < 8)) = .bool false] [(78, .bool false)] [] 9 0 hS (hB133.k 3 (.c (rlr 73 hG.prods) (.c (as_t (by omega)) (.c (as_f (by omega)) .nil)))) fun a hS => sge hK136 ?_
    refine cond_f hS rfl ?_
    refine xt2 <| hK130 _ _ <| sq fun K378 hK378 => rgn 5 <| sd ww [.p, .p, .ld (.slice T295.fb S.ns.length T295.fc)] [_] [(127, .slice K2.ab K2.an K2.ac), (129, .slice T295.fb S.ns.length T295.fc)] [] 3 2 hS (hb12.k 1 .nil) fun a hS => eff_append_rd ww (r := 1) (d := (some 130)) (t := 37) (ty := 37) (e := 51) (size := 1) (bytes := 24) (len := K2.an) (k := S.ns.length) (z := #[.slice none 0 0]) (v := Value.slice K2.ab K2.an K2.ac) (u := .slice T295.fb S.ns.length T295.fc) (xs := (K2.LA.map Rw.v)) (news := (T295.fL.map Rw.v)) hS (by kernel_rfl) (by kernel_rfl) (by kernel_rfl) (by kernel_rfl) hK2.a.own hKt2.td.lf.own.rd (Fam.oneA hKt2.td.lf.fam) (by omega) (by omega) fun bs379 cp379 a wa379 hA379 hS => ?_
    have hEa379 : Ext (ob (Value.slice K2.ab K2.an K2.ac)) wl132 wa379 := hA379.ext
    have hO379 := hA379.own
    have hB382 := hb12.ext hEa379 (hK2.a.own.notin hb12 (by decide))
    have hE383 : Ext [] w72 wa379 := hXl132.trans hEa379 (fun b hb => .inr ((fun b hb => hK2.a.new b (by rw [ob_oa] at hb; exact hb)) b hb))
    have hnw379 : ∀ x ∈ ob (.slice bs379 (K2.an + S.ns.length) cp379), w72.heap.size ≤ x := fun x hx => by
     rcases hA379.fresh x (by simpa using hx) with h | h
     ·exact (fun b hb => hK2.a.new b (by rw [ob_oa] at hb; exact hb)) x h
     ·exact Nat.le_trans hXl132.size h
    have hG384 : True := trivial
    let Ka385 : Kx := { K2 with ab := bs379, an := K2.an + S.ns.length, ac := cp379, LA := K2.LA ++ T295.fL }
    obtain ⟨hKa385, hKb385⟩ : Kb w72.heap.size wa379 Ka385 ∧ Kt S wl87.heap.size wa379 T295 Ka385 (bl T295.wL ++ bl T295.yL) := hKt2.rowF hK2 hN12 hA379
    have hKn379 : Ka385.an = K2.an + S.ns.length := rfl
    refine sd ww [.p] [] [(7, .slice bs379 (K2.an + S.ns.length) cp379)] [] 5 0 hS .nil fun a hS => sge hK378 <| sq fun K386 hK386 => rgn 5 <| sd ww [.p, .p, .ld (.slice T295.wb S.ns.length T295.wc)] [_] [(131, .slice bs379 (K2.an + S.ns.length) cp379), (133, .slice T295.wb S.ns.length T295.wc)] [] 3 2 hS (hB382.k 2 .nil) fun a hS => eff_append_rd ww (r := 1) (d := (some 134)) (t := 37) (ty := 37) (e := 51) (size := 1) (bytes := 24) (len := (K2.an + S.ns.length)) (k := S.ns.length) (z := #[.slice none 0 0]) (v := Value.slice bs379 (K2.an + S.ns.length) cp379) (u := .slice T295.wb S.ns.length T295.wc) (xs := (Ka385.LA.map Rw.v)) (news := (T295.wL.map Rw.v)) hS (by kernel_rfl) (by kernel_rfl) (by kernel_rfl) (by kernel_rfl) hKa385.a.own hKb385.td.lw.own.rd (Fam.oneA hKb385.td.lw.fam) (by omega) (by omega) fun bs387 cp387 a wa387 hA387 hS => ?_
    have hEa387 : Ext (ob (Value.slice bs379 (K2.an + S.ns.length) cp379)) wa379 wa387 := hA387.ext
    have hO387 := hA387.own
    have hB390 := hB382.ext hEa387 (hKa385.a.own.notin hB382 (by decide))
    have hE391 : Ext [] w72 wa387 := hE383.trans hEa387 (fun b hb => .inr ((fun b hb => hKa385.a.new b (by rw [ob_oa] at hb; exact hb)) b hb))
    have hnw387 : ∀ x ∈ ob (.slice bs387 ((K2.an + S.ns.length) + S.ns.length) cp387), w72.heap.size ≤ x := fun x hx => by
     rcases hA387.fresh x (by simpa using hx) with h | h
     ·exact (fun b hb => hKa385.a.new b (by rw [ob_oa] at hb; exact hb)) x h
     ·exact Nat.le_trans hE383.size h
    have hG392 : True := trivial
    let Ka393 : Kx := { Ka385 with ab := bs387, an := Ka385.an + S.ns.length, ac := cp387, LA := Ka385.LA ++ T295.wL }
    obtain ⟨hKa393, hKb393⟩ : Kb w72.heap.size wa387 Ka393 ∧ Kt S wl87.heap.size wa387 T295 Ka393 (bl T295.yL) := hKb385.rowW hKa385 hN12 hA387
    have hKn387 : Ka393.an = Ka385.an + S.ns.length := rfl
    refine sd ww [.p] [] [(7, .slice bs387 ((K2.an + S.ns.length) + S.ns.length) cp387)] [] 5 0 hS .nil fun a hS => sge hK386 <| sq fun K394 hK394 => rgn 5 <| sd ww [.p, .p, .ld (.slice T295.yb T295.yn T295.yc)] [_] [(135, .slice bs387 ((K2.an + S.ns.length) + S.ns.length) cp387), (137, .slice T295.yb T295.yn T295.yc)] [] 3 2 hS (hB390.k 3 .nil) fun a hS => eff_append_rd ww (r := 1) (d := (some 138)) (t := 37) (ty := 37) (e := 51) (size := 1) (bytes := 24) (len := ((K2.an + S.ns.length) + S.ns.length)) (k := T295.yn) (z := #[.slice none 0 0]) (v := Value.slice bs387 ((K2.an + S.ns.length) + S.ns.length) cp387) (u := .slice T295.yb T295.yn T295.yc) (xs := (Ka393.LA.map Rw.v)) (news := (T295.yL.map Rw.v)) hS (by kernel_rfl) (by kernel_rfl) (by kernel_rfl) (by kernel_rfl) hKa393.a.own hKb393.td.ly.own.rd (Fam.oneA hKb393.td.ly.fam) (by omega) (by omega) fun bs395 cp395 a wa395 hA395 hS => ?_
    have hEa395 : Ext (ob (Value.slice bs387 ((K2.an + S.ns.length) + S.ns.length) cp387)) wa387 wa395 := hA395.ext
    have hO395 := hA395.own
    have hB398 := hB390.ext hEa395 (hKa393.a.own.notin hB390 (by decide))
    have hE399 : Ext [] w72 wa395 := hE391.trans hEa395 (fun b hb => .inr ((fun b hb => hKa393.a.new b (by rw [ob_oa] at hb; exact hb)) b hb))
    have hnw395 : ∀ x ∈ ob (.slice bs395 (((K2.an + S.ns.length) + S.ns.length) + T295.yn) cp395), w72.heap.size ≤ x := fun x hx => by
     rcases hA395.fresh x (by simpa using hx) with h | h
     ·exact (fun b hb => hKa393.a.new b (by rw [ob_oa] at hb; exact hb)) x h
     ·exact Nat.le_trans hE391.size h
    have hG400 : True := trivial
    let Ka401 : Kx := { Ka393 with ab := bs395, an := Ka393.an + T295.yn, ac := cp395, LA := Ka393.LA ++ T295.yL }
    obtain ⟨hKa401, hKb401⟩ : Kb w72.heap.size wa395 Ka401 ∧ Kt S wl87.heap.size wa395 T295 Ka401 ([]) := hKb393.rowY hKa393 hN12 hA395
    have hKn395 : Ka401.an = Ka393.an + T295.yn := rfl
    refine sg ww [.p] [] [(1, (Pv w.heap.size)), (6, (Pv wc55.heap.size)), (7, .slice bs395 (((K2.an + S.ns.length) + S.ns.length) + T295.yn) cp395), (8, .slice K2.hb K2.hn K2.hc), (9, .slice K2.ob K2.on K2.oc), (10, .slice K2.eb K2.en K2.ec), (11, I6 turn), (12, (Pv wc95.heap.size)), (15, I6 i), (78, .bool false)] 5 0 hS .nil fun a hS => sge hK394 <| sq fun K402 hK402 => rgn 10 <| sd ww [.p, .p, .ld (.slice T295.fb S.ns.length T295.fc), .p, .ld (.slice T295.wb S.ns.length T295.wc), .p, .ld (.slice T295.yb T295.yn T295.yc)] [_, _, _] [(139, .slice K2.ob K2.on K2.oc), (141, .slice T295.fb S.ns.length T295.fc), (143, .slice T295.wb S.ns.length T295.wc), (145, .slice T295.yb T295.yn T295.yc)] [] 7 3 hS (hB398.k 1 (hB398.k 2 (hB398.k 3 .nil))) fun a hS => eff_new ww (r := 2) (cs := #[.slice T295.fb S.ns.length T295.fc, .slice T295.wb S.ns.length T295.wc, .slice T295.yb T295.yn T295.yc]) (T := 37) (v := Value.slice (some ⟨wa395.heap.size, 0, none⟩) 3 3) (d := (some 146)) hS (by kernel_rfl) fun a w403 hw404 hS => ?_
    have hB410 := Blk.at' hw404 (hB398.alloc _)
    have hX411 : Ext [] wa395 w403 := by rw [hw404]; exact (Ext.refl _ _).alloc _
    have hG412 : Kb w72.heap.size w403 Ka401 := hKa401.ext0 hX411
    have hG413 : Kt S wl87.heap.size w403 T295 Ka401 ([]) := hKb401.ext0 hX411
    have hB414 := Blk.nw hw404
    have hs415 := hE399.size
    have hE416 := hE399.al hw404
    refine eff_append2 ww (r := 1) (d := (some 147)) (t := 90) (ty := 90) (e := 37) (size := 1) (bytes := 24) (len := K2.on) (b := wa395.heap.size) (off := 0) (k := 3) (c := 3) (z := #[.slice none 0 0]) (v := Value.slice K2.ob K2.on K2.oc) (xs := (K2.LO.map Rw.v)) [.slice T295.fb S.ns.length T295.fc, .slice T295.wb S.ns.length T295.wc, .slice T295.yb T295.yn T295.yc] hS (by kernel_rfl) (by kernel_rfl) (by kernel_rfl) (by kernel_rfl) (by kernel_rfl) hG412.o.own (by simp) (fun j u hu => by rw [Nat.zero_add]; exact hB414.cell j (by simpa using hu)) rfl (by omega) (by omega) (by omega) fun ga417 ca417 a wa417 hOa417 hEa417 hFa417 hS => ?_
    have hB420 := hB410.ext hEa417 (hG412.o.own.notin hB410 (by decide))
    have hE421 : Ext [] w72 wa417 := hE416.trans hEa417 (fun b hb => .inr ((fun b hb => hG412.o.new b (by rw [ob_oa] at hb; exact hb)) b hb))
    let Ka422 : Kx := { Ka401 with ob := some ⟨ga417, 0, none⟩, on := Ka401.on + 3, oc := ca417, LO := Ka401.LO ++ Td.rows S T295 }
    obtain ⟨hKa422, hKb422⟩ : Kb w72.heap.size wa417 Ka422 ∧ Kt S wl87.heap.size wa417 T295 { Ka401 with ob := some ⟨ga417, 0, none⟩, on := Ka401.on + 3, oc := ca417, LO := Ka401.LO } [] := hG413.rowO hG412 hN12 hnmax hEa417 hOa417 hFa417
    have hKn417 : Ka422.on = Ka401.on + 3 := rfl
    have hte := hKb422.te
    refine sd ww [.p] [] [(9, Sl ga417 (K2.on + 3) ca417)] [] 10 0 hS .nil fun a hS => sge hK402 <| rgn 6 <| sd ww [.p, .p, .ld (Sn S T295.eg)] [_] [(148, .slice K2.eb K2.en K2.ec), (150, Sn S T295.eg)] [] 3 3 hS (hB420.k 0 .nil) fun a hS => eff_new ww (r := 2) (cs := #[Sn S T295.eg]) (T := 31) (v := Value.slice (some ⟨wa417.heap.size, 0, none⟩) 1 1) (d := (some 151)) hS (by kernel_rfl) fun a w423 hw424 hS => ?_
    have hX431 : Ext [] wa417 w423 := by rw [hw424]; exact (Ext.refl _ _).alloc _
    have hG432 : Kb w72.heap.size w423 Ka422 := hKa422.ext0 hX431
    have hG433 : TdOk S wl87.heap.size w423 T295 := hKb422.td.ext0 hX431
    have hB434 := Blk.nw hw424
    have hs435 := hE421.size
    have hE436 := hE421.al hw424
    refine eff_append2 ww (r := 1) (d := (some 152)) (t := 91) (ty := 91) (e := 31) (size := 1) (bytes := 24) (len := K2.en) (b := wa417.heap.size) (off := 0) (k := 1) (c := 1) (z := #[.slice none 0 0]) (v := Value.slice K2.eb K2.en K2.ec) (xs := (K2.LE.map Rw.v)) [Sn S T295.eg] hS (by kernel_rfl) (by kernel_rfl) (by kernel_rfl) (by kernel_rfl) (by kernel_rfl) hG432.e.own (by simp) (fun j u hu => by rw [Nat.zero_add]; exact hB434.cell j (by simpa using hu)) rfl (by omega) (by omega) (by omega) fun ga437 ca437 a wa437 hOa437 hEa437 hFa437 hS => ?_
    have hE441 : Ext [] w72 wa437 := hE436.trans hEa437 (fun b hb => .inr ((fun b hb => hG432.e.new b (by rw [ob_oa] at hb; exact hb)) b hb))
    let Ka442 : Kx := { Ka422 with eb := some ⟨ga437, 0, none⟩, en := Ka422.en + 1, ec := ca437, LE := Ka422.LE ++ [⟨Sn S T295.eg, S.ns.length, bls T295.es⟩] }
    have hKa442 : Kb w72.heap.size wa437 Ka442 := hG432.rowE hG433 hte hN12 hnmax hEa437 hOa437 hFa437
    have hKn437 : Ka442.en = Ka422.en + 1 := rfl
    refine sd ww [.p] [] [(10, Sl ga437 (K2.en + 1) ca437)] [] 6 0 hS .nil fun a hS => seg_end <| inBlock_normal <| hK93 _ _ <| rgn 3 <| sd ww [.p, .as (I6 (↑turn + 1)), .p] [_] [(11, I6 (↑turn + 1))] [] 3 0 hS (as6 (↑turn + 1)) fun a hS => seg_end ?_
    exact ⟨((turn + 1), Ka442), ⟨hS.kp [(1, (Pv w.heap.size)), (6, (Pv wc55.heap.size)), (7, .slice bs395 (((K2.an + S.ns.length) + S.ns.length) + T295.yn) cp395), (8, .slice K2.hb K2.hn K2.hc), (9, Sl ga417 (K2.on + 3) ca417), (10, Sl ga437 (K2.en + 1) ca437), (11, I6 (↑turn + 1))], hE441, by omega, hKa442, .inr ⟨Nat.succ_pos _, hHe⟩, hHW2, ⟨by show K2.an + S.ns.length + S.ns.length + T295.yn ≤ _; omega, by show K2.on + 3 ≤ _; omega, by show K2.en + 1 ≤ _; omega⟩⟩, by simp only; omega⟩
  ·
   replace hb92 := of_decide_eq_false hb92
   have hLn : 0 < K.LH.length := by
    rcases hHL with ⟨h, _⟩ | ⟨_, h⟩
    ·omega
    ·exact h 0 hpos (by omega)
   have hhl := hK.h.len
   refine xt2 <| hK85 _ _ <| sq fun K443 hK443 => ?_
   obtain ⟨p, hpi⟩ : ∃ p, S.ps[0]? = some p := gE
   have hpm := List.mem_of_getElem? hpi
   have hpl := hI.pl hpm
   have h16 := hok.r16 hpm
   obtain ⟨lw, hlw⟩ : ∃ l, T.wl[p.l.toNat]? = some l := gE
   obtain ⟨ug, hugi, hug⟩ := hga _ _ hlw
   have hlwm := hglm lw (List.mem_of_getElem? hlw)
   refine rgn 6 <| sd ww [.p, .ld (S.pv), .run ((Po (bof S.pv) (oof S.pv + 0 * 2))), .lds [I6 p.l, p.rv]] [_, Rv (Instr.indexAt 24 (S.pv) (I6 0)) ((Po (bof S.pv) (oof S.pv + 0 * 2))) wl87, wl87.cell? ⟨bof S.pv, oof S.pv + 0 * 2, none⟩ = some (I6 p.l), wl87.cell? ⟨bof S.pv, oof S.pv + 0 * 2 + 1, none⟩ = some (p.rv)] [(156, .agg #[I6 p.l, p.rv])] [] 4 2 hS (hB88.k 3 (.c (ixr 73 0 hG.prods) (.c ((hG.prods.ext0 (hbr81.trans0 hXl87)).cellAt (0 * 2 + 0) (by omega) (pcells_at S.ps 0 0 p hpi (by omega))) (.c ((hG.prods.ext0 (hbr81.trans0 hXl87)).cellAt (0 * 2 + 1) (by omega) (pcells_at S.ps 0 1 p hpi (by omega))) .nil)))) fun a hS => ebx 1 #[I6 0, .slice none 0 0] 73 (some 19) hS fun a w444 hw445 hS => ?_
   have hn446 := Nat.ne_of_lt hB88.lt
   have hn447 := Nat.ne_of_lt hB89.lt
   have hB448 := Blk.at' hw445 (hB88.alloc _)
   have hB449 := Blk.at' hw445 (hB89.alloc _)
   have hX450 : Ext [] wl87 w444 := by rw [hw445]; exact (Ext.refl _ _).alloc _
   have hG451 : Kb w72.heap.size w444 K := hK.ext0 hX450
   have hB452 := Blk.nw hw445
   have hs453 := hXl87.size
   have hE454 := hXl87.al hw445
   refine est 0 wl87.heap.size 0 [I6 p.l, p.rv] hS hB452 fun a w455 hw456 hS => ?_
   have hB457 := Blk.at' hw456 (hB448.updNe (Ne.symm hn446) _ _)
   have hB458 := Blk.at' hw456 (hB449.updNe (Ne.symm hn447) _ _)
   have hB459 : Blk w455 wl87.heap.size 73 (#[I6 p.l, p.rv]) := hB452.up hw456
   have hX460 : Ext [wl87.heap.size] w444 w455 := by rw [hw456]; exact (Ext.refl _ _).updIn (.inl (by simp)) _ _
   have hG461 : Kb w72.heap.size w455 K := hG451.extT hX460 hB452 (by decide) (by decide) (by decide) (by decide) (by decide)
   have hE462 := hE454.ui hw456 hs453
   refine sge hK443 <| sq fun K463 hK463 => ?_
   refine region_set (G := (Option Addr) × Nat × Nat × (List Nat) × Nat) ww [.q (.lds [S.lv, S.nv, I6 S.st, S.pv]), .q .p, .q (.ld (p.rv)), .q .p, .q (.ld (.slice q455.a2 q455.n2 q455.k2)), .q .p, .q (.ld (I6 p.l)), .q (.run ((Po (bof (.slice q455.a2 q455.n2 q455.k2)) (oof (.slice q455.a2 q455.n2 q455.k2) + p.l.toNat * 1)))), .q (.ld (ug)), .e, .q .p, .q .p, .q .p, .e, .q .p, .e] [0, 0, 2, 0, 8, 0, 32, 120, 248, 511, 1023, 2047, 2047, 0, 12287, 32767] [9, 13, 15] (fun ⟨qb, qn, qc, ql, x31_13⟩ => ([(1, (Pv w.heap.size)), (6, (Pv wc55.heap.size)), (7, .slice K.ab K.an K.ac), (8, .slice K.hb K.hn K.hc), (9, .slice K.ob K.on K.oc), (10, .slice K.eb K.en K.ec), (11, I6 turn), (19, (Pv wl87.heap.size)), (158, .agg S.ca), (159, (Po wl87.heap.size 1)), (160, p.rv), (161, (Po wc55.heap.size 2)), (162, .slice q455.a2 q455.n2 q455.k2), (163, (Pv wl87.heap.size)), (164, I6 p.l), (165, (Po (bof (.slice q455.a2 q455.n2 q455.k2)) (oof (.slice q455.a2 q455.n2 q455.k2) + p.l.toNat * 1))), (166, ug), (167, .tuple #[.slice qb qn qc, .agg #[I6 0, I6 0, .string ⟨#[]⟩]]), (157, .tuple #[.slice qb qn qc, .agg #[I6 0, I6 0, .string ⟨#[]⟩]]), (168, .slice qb qn qc), (169, .agg #[I6 0, I6 0, .string ⟨#[]⟩]), (21, (Pv x31_13)), (20, .slice qb qn qc)] : Fm)) (fun D ⟨qb, qn, qc, ql, x31_13⟩ w' => Ext [] w455 w' ∧ (D 15 = false → (D 13 = true → (Blk w' x31_13 34 (#[I6 0, I6 0, .string ⟨#[]⟩]) ∧ w455.heap.size ≤ x31_13)) ∧ (D 9 = true → HdO S p.r (ints lw) w455.heap.size w' qb qn qc ql) ∧ True) ∧ (D 15 = true → (Blk w' x31_13 34 (#[I6 0, I6 0, .string ⟨#[]⟩]) ∧ w455.heap.size ≤ x31_13) ∧ HdO S p.r (ints lw) w455.heap.size w' qb qn qc ql ∧ True)) (fun ⟨qb, qn, qc, ql, x31_13⟩ w' => [(0, [w'.cell? ⟨w.heap.size, 0, none⟩ = some (S.lv), w'.cell? ⟨w.heap.size, 1, none⟩ = some (S.nv), w'.cell? ⟨w.heap.size, 2, none⟩ = some (I6 S.st), w'.cell? ⟨w.heap.size, 3, none⟩ = some (S.pv)]), (2, [w'.cell? ⟨wl87.heap.size, 1, none⟩ = some (p.rv)]), (4, [w'.cell? ⟨wc55.heap.size, 2, none⟩ = some (.slice q455.a2 q455.n2 q455.k2)]), (6, [w'.cell? ⟨wl87.heap.size, 0, none⟩ = some (I6 p.l)]), (7, [Rv (Instr.indexAt 37 (.slice q455.a2 q455.n2 q455.k2) (I6 p.l)) ((Po (bof (.slice q455.a2 q455.n2 q455.k2)) (oof (.slice q455.a2 q455.n2 q455.k2) + p.l.toNat * 1))) w']), (8, [w'.cell? ⟨bof (.slice q455.a2 q455.n2 q455.k2), oof (.slice q455.a2 q455.n2 q455.k2) + p.l.toNat * 1, none⟩ = some (ug)])]) (none, 0, 0, [], 0) [1, 6, 7, 8, 9, 10, 11, 19] [] hS (by kernel_rfl) (by kernel_rfl) (by kernel_rfl) (by kernel_rfl) (fun ⟨qb, qn, qc, ql, x31_13⟩ _ => by kernel_rfl) (by kernel_rfl) (by kernel_rfl) ⟨(Ext.refl _ _).drew, fun _ => ⟨fun h => (by cases h), fun h => (by cases h), trivial⟩, fun h => by cases h⟩ ?_ ?_ ?_
   ·rintro D ⟨qb, qn, qc, ql, x31_13⟩ w' ⟨hE, _, _⟩ xq hxq _ _
    refine AllI.mem ?_ xq hxq
    exact (.c (.c (((hB457.ext hE (by simp)) : Blk w' w.heap.size 26 (S.ca)).cell 0 rfl) (.c (((hB457.ext hE (by simp)) : Blk w' w.heap.size 26 (S.ca)).cell 1 rfl) (.c (((hB457.ext hE (by simp)) : Blk w' w.heap.size 26 (S.ca)).cell 2 rfl) (.c (((hB457.ext hE (by simp)) : Blk w' w.heap.size 26 (S.ca)).cell 3 rfl) .nil)))) (.c (.c (((hB459.ext hE (by simp)) : Blk w' wl87.heap.size 73 (#[I6 p.l, p.rv])).cell 1 rfl) .nil) (.c (.c (((hB458.ext hE (by simp)) : Blk w' wc55.heap.size 53 (#[.slice q455.a0 q455.n0 q455.k0, .slice q455.a1 q455.n1 q455.k1, .slice q455.a2 q455.n2 q455.k2, .slice q455.a3 q455.n3 q455.k3, .bool T.full])).cell 2 rfl) .nil) (.c (.c (((hB459.ext hE (by simp)) : Blk w' wl87.heap.size 73 (#[I6 p.l, p.rv])).cell 0 rfl) .nil) (.c (.c (ix_rd (e := 51) (j := p.l.toNat) hgr (by kernel_rfl) (by kernel_rfl) (Int.toNat_of_nonneg (by omega)).symm (by omega)) .nil) (.c (.c ((hgr.ext0 (hE462.trans0 hE)).cellAt (p.l.toNat * 1) (by omega) (by rw [Nat.mul_one]; exact hugi)) .nil) .nil))))))
   ·refine (.c ?_ (.c ?_ (.c ?_ .nil)))
    ·rintro D ⟨qb, qn, qc, ql, x31_13⟩ w' ⟨hE, hA, hB⟩ hDi hdp hnd
     have hDf : D 15 = false := hnd 15 (by simp) (by decide)
     obtain ⟨hA13, hR9, _⟩ := hA hDf
     refine upon_call (f := 33) (vs := [.agg S.ca, p.rv, ug]) (cap := #[]) (d := (some 167)) (by kernel_rfl) Tryd.call33 #[.agg S.ca, p.rv, ug] (by kernel_rfl) (Heads_ok (hG.ext0 ((hbr81.trans0 hE462).trans0 hE)) (Ext.refl _ _) (hT.ext0 ((hbr81.trans0 hE462).trans0 hE)) hok ((hG.right p hpm).ext0 ((hbr81.trans0 hE462).trans0 hE)) h16 (hI.right p hpm) (ts := ints lw) (by rw [its_ints]; exact hug.ext0 (hE462.trans0 hE)) (by omega) (fun z hz => by
      obtain ⟨t, ht, rfl⟩ := List.mem_map.1 hz
      exact Fo_tm hI ((hIW.has hlw).1 ht))) ?_
     rintro _ wn ⟨bsq, nq, cq, lq, rfl, hOq, hEn⟩
     refine ⟨_, rfl, (bsq, nq, cq, lq, x31_13), by kernel_rfl, by kernel_rfl, hE.trans0 hEn, fun _ => ⟨fun h => ⟨(hA13 h).1.ext hEn (by simp), (hA13 h).2⟩, fun _ => hOq.mono hE.size, trivial⟩, fun h => ?_⟩
     rw [show setS D 9 15 = D 15 from rfl, hDf] at h; cases h
    ·rintro D ⟨qb, qn, qc, ql, x31_13⟩ w' ⟨hE, hA, hB⟩ hDi hdp hnd
     have hDf : D 15 = false := hnd 15 (by simp) (by decide)
     obtain ⟨hA13, hR9, _⟩ := hA hDf
     have hEn : Ext [] w' (w'.alloc (.cells #[I6 0, I6 0, .string ⟨#[]⟩] 34)) := (Ext.refl _ _).alloc _
     refine upon_box (nb := w'.heap.size) (cs := #[I6 0, I6 0, .string ⟨#[]⟩]) (T := 34) (d := (some 21)) (by kernel_rfl) rfl ⟨(qb, qn, qc, ql, w'.heap.size), by kernel_rfl, by kernel_rfl, hE.trans0 hEn, fun _ => ⟨fun _ => ⟨Blk.new _ _ _, hE.size⟩, fun h => (hR9 h).ext0 hEn, trivial⟩, fun h => ?_⟩
     rw [show setS D 13 15 = D 15 from rfl, hDf] at h; cases h
    ·rintro D ⟨qb, qn, qc, ql, x31_13⟩ w' ⟨hE, hA, hB⟩ hDi hdp hnd
     obtain ⟨hA13, hR9, _⟩ := hA hDi
     obtain ⟨hf13, hs13⟩ := hA13 (hdp 13 (by simp) (by decide))
     refine upon_store (b := x31_13) (off := 0) (vs := [I6 0, I6 0, .string ⟨#[]⟩]) (by kernel_rfl) hf13 (by simp) ⟨(qb, qn, qc, ql, x31_13), by kernel_rfl, by kernel_rfl, hE.updIn (.inr hs13) _ _, fun h => ?_, fun _ => ⟨⟨hf13.upd _ _, hs13⟩, (hR9 (hdp 9 (by simp) (by decide))).updT hf13 (by decide) _, trivial⟩⟩
     rw [setS_self] at h; cases h
   rintro D ⟨qb, qn, qc, ql, x31_13⟩ a wz464 hS hall ⟨hEz464, _, hB⟩
   obtain ⟨⟨hz464_13, hy464_13⟩, hr464_9, _⟩ := hB (hall 15 (by simp))
   have hB465 := hB457.ext hEz464 (by simp)
   have hB466 := hB458.ext hEz464 (by simp)
   have hw464_13 : w72.heap.size ≤ x31_13 := Nat.le_trans hE462.size hy464_13
   have hE468 := hE462.trans0 hEz464
   have hG469 : Kb w72.heap.size wz464 K := hG461.ext0 hEz464
   replace hS := hS.kp [(1, (Pv w.heap.size)), (6, (Pv wc55.heap.size)), (7, .slice K.ab K.an K.ac), (8, .slice K.hb K.hn K.hc), (9, .slice K.ob K.on K.oc), (10, .slice K.eb K.en K.ec), (11, I6 turn), (19, (Pv wl87.heap.size)), (21, (Pv x31_13)), (20, .slice qb qn qc)]
   refine hK463 _ _ <| sq fun K470 hK470 => ?_
   have hqm := hr464_9.is.max
   have hqn := hr464_9.row.len
   refine rgn 10 <| sd ww [.lds [S.lv, S.nv, I6 S.st, S.pv]] [_, _, _, _] [(171, .agg S.ca)] [] 1 9 hS (hB465.k 0 (hB465.k 1 (hB465.k 2 (hB465.k 3 .nil)))) fun a hS => ecl 8 (some 172) hS Tryd.call27 #[.agg S.ca] (told_ok hG (hbr81.trans0 hE468) hT hok) ?_
   rintro _ wc471 ⟨T3471, rfl, hT3471, hEc471⟩
   refine ⟨_, rfl, fun a hS => ?_⟩
   have hB472 := hB465.ext hEc471 (by simp)
   have hB473 := hB466.ext hEc471 (by simp)
   have hB475 := hz464_13.ext hEc471 (by simp)
   have hB476 := hr464_9.row.own.ext hEc471 (by simp)
   have hG477 : Kb w72.heap.size wc471 K := hG469.ext0 hEc471
   have hE478 := hE468.trans0 hEc471
   refine sd ww [.p, .p, .p, .p] [] [(173, .agg #[Sn S T3471.eg, .slice T3471.fb S.ns.length T3471.fc, .slice T3471.wb S.ns.length T3471.wc, .slice T3471.yb T3471.yn T3471.yc, .bool T3471.full]), (174, .bool true), (175, .bool true)] [] 6 4 hS .nil fun a hS => ebx 3 #[.slice none 0 0, .slice none 0 0, .slice none 0 0, .slice none 0 0, .bool false] 53 (some 22) hS fun a w479 hw480 hS => ?_
   have hn481 := Nat.ne_of_lt hB472.lt
   have hn482 := Nat.ne_of_lt hB473.lt
   have hn484 := Nat.ne_of_lt hB475.lt
   have hn485 : ∀ x ∈ ob (.slice qb qn qc), wc471.heap.size ≠ x := fun x hx => Nat.ne_of_gt (hB476.lie x hx)
   have hB486 := Blk.at' hw480 (hB472.alloc _)
   have hB487 := Blk.at' hw480 (hB473.alloc _)
   have hB489 := Blk.at' hw480 (hB475.alloc _)
   have hB490 := OwnV.at' hw480 (hB476.alloc _)
   have hX491 : Ext [] wc471 w479 := by rw [hw480]; exact (Ext.refl _ _).alloc _
   have hG492 : Kb w72.heap.size w479 K := hG477.ext0 hX491
   have hG493 : TdOk S wz464.heap.size w479 T3471 := hT3471.ext0 hX491
   have hB494 := Blk.nw hw480
   have hs495 := hE478.size
   have hE496 := hE478.al hw480
   refine est 2 wc471.heap.size 0 [Sn S T3471.eg, .slice T3471.fb S.ns.length T3471.fc, .slice T3471.wb S.ns.length T3471.wc, .slice T3471.yb T3471.yn T3471.yc, .bool T3471.full] hS hB494 fun a w497 hw498 hS => ?_
   have hB499 := Blk.at' hw498 (hB486.updNe (Ne.symm hn481) _ _)
   have hB500 := Blk.at' hw498 (hB487.updNe (Ne.symm hn482) _ _)
   have hB502 := Blk.at' hw498 (hB489.updNe (Ne.symm hn484) _ _)
   have hB503 := OwnV.at' hw498 (hB490.updNe hn485 _ _)
   have hB504 : Blk w497 wc471.heap.size 53 (#[Sn S T3471.eg, .slice T3471.fb S.ns.length T3471.fc, .slice T3471.wb S.ns.length T3471.wc, .slice T3471.yb T3471.yn T3471.yc, .bool T3471.full]) := hB494.up hw498
   have hX505 : Ext [wc471.heap.size] w479 w497 := by rw [hw498]; exact (Ext.refl _ _).updIn (.inl (by simp)) _ _
   have hG506 : Kb w72.heap.size w497 K := hG492.extT hX505 hB494 (by decide) (by decide) (by decide) (by decide) (by decide)
   have hG507 : TdOk S wz464.heap.size w497 T3471 := hG493.extT hX505 hB494 (by decide) (by decide) (by decide)
   have hE508 := hE496.ui hw498 hs495
   refine sd ww [.p, .p] [] [(23, .bool true)] [] 10 0 hS .nil fun a hS => sge hK470 <| sq fun K509 hK509 => sq fun K510 hK510 => ?_
   have hqlo := hr464_9.row.new
   have hlta := hG461.a.fam.blt
   have hlua := hG469.a.fam.blt
   have hlto := hG461.o.fam.blt
   have hluo := hG469.o.fam.blt
   have hlte := hG461.e.fam.blt
   have hlue := hG469.e.fam.blt
   refine rgn 36 <| sd ww [.p, .p, .p, .p, .ld (I6 0), .p, .p, .p, .p] [_] [(183, .bool false), (184, .slice K.ab K.an K.ac)] [] 9 27 hS (hB502.k 0 .nil) fun a hS => ecl 26 (some 185) hS Tryd.call42 #[.slice K.ab K.an K.ac] (hG506.grownA (by omega)) ?_
   rintro _ wg511 ⟨rfl, hCh511, hCo511, hCe511, hEg511⟩
   refine ⟨_, rfl, fun a hS => ?_⟩
   have hB512 := hB499.ext hEg511 (hG506.a.fam.notT hB499 (by decide))
   have hB513 := hB500.ext hEg511 (hG506.a.fam.notT hB500 (by decide))
   have hB516 := hB503.ext hEg511 (fun x hx hm => by have h1 := hqlo x hx; have h2 := hlta x hm; omega)
   have hB517 := hB504.ext hEg511 (hG506.a.fam.notT hB504 (by decide))
   have hE518 := hE508.trans hEg511 (fun b hb => .inr (hG506.a.fam.bD b hb))
   have hG519 := hG507.extM hEg511 hlua
   refine sg ww [.p, .p, .p, .p] [] [(1, (Pv w.heap.size)), (6, (Pv wc55.heap.size)), (7, .slice K.ab K.an K.ac), (8, .slice K.hb K.hn K.hc), (9, .slice K.ob K.on K.oc), (10, .slice K.eb K.en K.ec), (11, I6 turn), (19, (Pv wl87.heap.size)), (21, (Pv x31_13)), (20, .slice qb qn qc), (22, (Pv wc471.heap.size)), (23, .bool true), (188, .bool false), (189, .slice K.ob K.on K.oc)] 14 22 hS .nil fun a hS => ecl 21 (some 190) hS Tryd.call43 #[.slice K.ob K.on K.oc] (hCo511.grownO hCh511 hCe511 hG469.ho (by omega)) ?_
   rintro _ wg520 ⟨rfl, hCh520, hCe520, hEg520⟩
   refine ⟨_, rfl, fun a hS => ?_⟩
   have hB521 := hB512.ext hEg520 (hCo511.fam.notT hB512 (by decide))
   have hB522 := hB513.ext hEg520 (hCo511.fam.notT hB513 (by decide))
   have hB525 := hB516.ext hEg520 (fun x hx hm => by have h1 := hqlo x hx; have h2 := hlto x hm; omega)
   have hB526 := hB517.ext hEg520 (hCo511.fam.notT hB517 (by decide))
   have hE527 := hE518.trans hEg520 (fun b hb => .inr (hCo511.fam.bD b hb))
   have hG528 := hG519.extM hEg520 hluo
   refine sd ww [.p, .p, .p, .p] [] [(193, .bool false), (194, .slice K.eb K.en K.ec)] [] 19 17 hS .nil fun a hS => ecl 16 (some 195) hS Tryd.call44 #[.slice K.eb K.en K.ec] (hCe520.grownE hCh520 (by omega)) ?_
   rintro _ wg529 ⟨rfl, hCh529, hEg529⟩
   refine ⟨_, rfl, fun a hS => ?_⟩
   have hB530 := hB521.ext hEg529 (hCe520.fam.notT hB521 (by decide))
   have hB531 := hB522.ext hEg529 (hCe520.fam.notT hB522 (by decide))
   have hB534 := hB525.ext hEg529 (fun x hx hm => by have h1 := hqlo x hx; have h2 := hlte x hm; omega)
   have hB535 := hB526.ext hEg529 (hCe520.fam.notT hB526 (by decide))
   have hE536 := hE527.trans hEg529 (fun b hb => .inr (hCe520.fam.bD b hb))
   have hG537 := hG528.extM hEg529 hlue
   obtain ⟨uh, huh, hur⟩ := hCh529.sameH hHW (j := 0) (by omega) hpi hlw hr464_9.is
   refine sd ww [.p, .p, .p, .lds [Sn S T3471.eg, .slice T3471.fb S.ns.length T3471.fc, .slice T3471.wb S.ns.length T3471.wc, .slice T3471.yb T3471.yn T3471.yc, .bool T3471.full], .lds [.slice q455.a0 q455.n0 q455.k0, .slice q455.a1 q455.n1 q455.k1, .slice q455.a2 q455.n2 q455.k2, .slice q455.a3 q455.n3 q455.k3, .bool T.full]] [_, _, _, _, _, _, _, _, _, _] [(198, .bool false), (199, .agg #[Sn S T3471.eg, .slice T3471.fb S.ns.length T3471.fc, .slice T3471.wb S.ns.length T3471.wc, .slice T3471.yb T3471.yn T3471.yc, .bool T3471.full]), (200, .agg #[.slice q455.a0 q455.n0 q455.k0, .slice q455.a1 q455.n1 q455.k1, .slice q455.a2 q455.n2 q455.k2, .slice q455.a3 q455.n3 q455.k3, .bool T.full])] [] 25 11 hS (hB535.k 0 (hB535.k 1 (hB535.k 2 (hB535.k 3 (hB535.k 4 (hB531.k 0 (hB531.k 1 (hB531.k 2 (hB531.k 3 (hB531.k 4 .nil)))))))))) fun a hS => ecl 10 (some 201) hS Tryd.call32 #[.agg #[Sn S T3471.eg, .slice T3471.fb S.ns.length T3471.fc, .slice T3471.wb S.ns.length T3471.wc, .slice T3471.yb T3471.yn T3471.yc, .bool T3471.full], .agg #[.slice q455.a0 q455.n0 q455.k0, .slice q455.a1 q455.n1 q455.k1, .slice q455.a2 q455.n2 q455.k2, .slice q455.a3 q455.n3 q455.k3, .bool T.full]] (sameTold_c hG537 hTT0 (hC5.ext0 hE536) hnmax) ?_
   rintro _ wc538 ⟨rfl, hEc538⟩
   refine ⟨_, rfl, fun a hS => ?_⟩
   have hB539 := hB530.ext hEc538 (by simp)
   have hB540 := hB531.ext hEc538 (by simp)
   have hB543 := hB534.ext hEc538 (by simp)
   have hB545 := hCh529.own.ext hEc538 (by simp)
   have hG546 : TdOk S wz464.heap.size wc538 T3471 := hG537.ext0 hEc538
   have hG547 : RdV wc538 1 uh ql.length (ivs ql) := hur.ext0 hEc538
   have hE548 := hE536.trans0 hEc538
   refine sd ww [.p, .p, .p, .p, .p, .run ((Po (bof (.slice K.hb K.hn K.hc)) (0 + 0 * 1))), .ld (uh)] [Rv (Instr.indexAt 37 (.slice K.hb K.hn K.hc) (I6 0)) ((Po (bof (.slice K.hb K.hn K.hc)) (0 + 0 * 1))) wc538, wc538.cell? ⟨bof (.slice K.hb K.hn K.hc), 0 + 0 * 1, none⟩ = some (uh)] [(204, .bool false), (205, .slice qb qn qc), (208, uh)] [] 33 3 hS (.c (ix_own (j := 0) (hB545) (by kernel_rfl) (by kernel_rfl) rfl (by omega)) (.c (OwnV.cellAt hB545 _ (by rw [Nat.zero_add, Nat.mul_one]; exact huh)) .nil)) fun a hS => ecl 2 (some 209) hS Tryd.call35 #[.slice qb qn qc, uh] (SameInts_eq (hB543 : OwnV wc538 3 1 (.slice qb qn qc) qn (ivs ql)).rd hG547 (by omega)) ?_
   rintro _ wc549 ⟨rfl, hEc549⟩
   refine ⟨_, rfl, fun a hS => ?_⟩
   have hB550 := hB539.ext hEc549 (by simp)
   have hB551 := hB540.ext hEc549 (by simp)
   have hG557 : TdOk S wz464.heap.size wc549 T3471 := hG546.ext0 hEc549
   have hG558 : RdV wc549 1 uh ql.length (ivs ql) := hG547.ext0 hEc549
   have hE559 := hE548.trans0 hEc549
   refine sd ww [.p, .p] [] [(211, .bool false)] [] 36 0 hS .nil fun a hS => sge hK510 ?_
   refine cond_f hS rfl ?_
   refine wpIn_skip <| hK509 _ _ <| sq fun K560 hK560 => rgn 10 <| sd ww [.lds [S.lv, S.nv, I6 S.st, S.pv]] [_, _, _, _] [(213, .agg S.ca)] [] 1 9 hS (hB550.k 0 (hB550.k 1 (hB550.k 2 (hB550.k 3 .nil)))) fun a hS => ecl 8 (some 214) hS Tryd.call27 #[.agg S.ca] (told_ok hG (hbr81.trans0 hE559) hT hok) ?_
   rintro _ wc561 ⟨T3561, rfl, hT3561, hEc561⟩
   refine ⟨_, rfl, fun a hS => ?_⟩
   have hB562 := hB550.ext hEc561 (by simp)
   have hB563 := hB551.ext hEc561 (by simp)
   have hE564 := hE559.trans0 hEc561
   refine sd ww [.p, .p, .p, .p] [] [(215, .agg #[Sn S T3561.eg, .slice T3561.fb S.ns.length T3561.fc, .slice T3561.wb S.ns.length T3561.wc, .slice T3561.yb T3561.yn T3561.yc, .bool T3561.full]), (216, .bool true), (217, .bool true)] [] 6 4 hS .nil fun a hS => ebx 3 #[.slice none 0 0, .slice none 0 0, .slice none 0 0, .slice none 0 0, .bool false] 53 (some 25) hS fun a w565 hw566 hS => ?_
   have hn567 := Nat.ne_of_lt hB562.lt
   have hn568 := Nat.ne_of_lt hB563.lt
   have hB569 := Blk.at' hw566 (hB562.alloc _)
   have hB570 := Blk.at' hw566 (hB563.alloc _)
   have hX571 : Ext [] wc561 w565 := by rw [hw566]; exact (Ext.refl _ _).alloc _
   have hG572 : TdOk S wc549.heap.size w565 T3561 := hT3561.ext0 hX571
   have hB573 := Blk.nw hw566
   have hs574 := hE564.size
   have hE575 := hE564.al hw566
   refine est 2 wc561.heap.size 0 [Sn S T3561.eg, .slice T3561.fb S.ns.length T3561.fc, .slice T3561.wb S.ns.length T3561.wc, .slice T3561.yb T3561.yn T3561.yc, .bool T3561.full] hS hB573 fun a w576 hw577 hS => ?_
   have hB578 := Blk.at' hw577 (hB569.updNe (Ne.symm hn567) _ _)
   have hB579 := Blk.at' hw577 (hB570.updNe (Ne.symm hn568) _ _)
   have hB580 : Blk w576 wc561.heap.size 53 (#[Sn S T3561.eg, .slice T3561.fb S.ns.length T3561.fc, .slice T3561.wb S.ns.length T3561.wc, .slice T3561.yb T3561.yn T3561.yc, .bool T3561.full]) := hB573.up hw577
   have hX581 : Ext [wc561.heap.size] w565 w576 := by rw [hw577]; exact (Ext.refl _ _).updIn (.inl (by simp)) _ _
   have hG582 : TdOk S wc549.heap.size w576 T3561 := hG572.extT hX581 hB573 (by decide) (by decide) (by decide)
   have hE583 := hE575.ui hw577 hs574
   refine sg ww [.p, .p] [] [(1, (Pv w.heap.size)), (6, (Pv wc55.heap.size)), (7, .slice K.ab K.an K.ac), (8, .slice K.hb K.hn K.hc), (9, .slice K.ob K.on K.oc), (10, .slice K.eb K.en K.ec), (11, I6 turn), (19, (Pv wl87.heap.size)), (21, (Pv x31_13)), (20, .slice qb qn qc), (22, (Pv wc471.heap.size)), (23, .bool true), (211, .bool false), (25, (Pv wc561.heap.size))] 10 0 hS .nil fun a hS => sge hK560 <| sq fun K584 hK584 => sq fun K585 hK585 => rgn 8 <| sd ww [.p, .p, .p, .lds [Sn S T3561.eg, .slice T3561.fb S.ns.length T3561.fc, .slice T3561.wb S.ns.length T3561.wc, .slice T3561.yb T3561.yn T3561.yc, .bool T3561.full], .lds [.slice q455.a0 q455.n0 q455.k0, .slice q455.a1 q455.n1 q455.k1, .slice q455.a2 q455.n2 q455.k2, .slice q455.a3 q455.n3 q455.k3, .bool T.full]] [_, _, _, _, _, _, _, _, _, _] [(220, .bool false), (221, .agg #[Sn S T3561.eg, .slice T3561.fb S.ns.length T3561.fc, .slice T3561.wb S.ns.length T3561.wc, .slice T3561.yb T3561.yn T3561.yc, .bool T3561.full]), (222, .agg #[.slice q455.a0 q455.n0 q455.k0, .slice q455.a1 q455.n1 q455.k1, .slice q455.a2 q455.n2 q455.k2, .slice q455.a3 q455.n3 q455.k3, .bool T.full])] [] 5 3 hS (hB580.k 0 (hB580.k 1 (hB580.k 2 (hB580.k 3 (hB580.k 4 (hB579.k 0 (hB579.k 1 (hB579.k 2 (hB579.k 3 (hB579.k 4 .nil)))))))))) fun a hS => ecl 2 (some 223) hS Tryd.call32 #[.agg #[Sn S T3561.eg, .slice T3561.fb S.ns.length T3561.fc, .slice T3561.wb S.ns.length T3561.wc, .slice T3561.yb T3561.yn T3561.yc, .bool T3561.full], .agg #[.slice q455.a0 q455.n0 q455.k0, .slice q455.a1 q455.n1 q455.k1, .slice q455.a2 q455.n2 q455.k2, .slice q455.a3 q455.n3 q455.k3, .bool T.full]] (sameTold_c hG582 hTT0 (hC5.ext0 hE583) hnmax) ?_
   rintro _ wc586 ⟨rfl, hEc586⟩
   refine ⟨_, rfl, fun a hS => ?_⟩
   have hB587 := hB578.ext hEc586 (by simp)
   have hG590 : TdOk S wc549.heap.size wc586 T3561 := hG582.ext0 hEc586
   have hE591 := hE583.trans0 hEc586
   refine sd ww [.p, .p] [] [(225, .bool false)] [] 8 0 hS .nil fun a hS => sge hK585 ?_
   refine cond_f hS rfl ?_
   refine wpIn_skip <| hK584 _ _ <| sq fun K592 hK592 => ?_
   obtain ⟨xs, hXx⟩ := hX
   have hbr593 : Ext [] w0 wc586 := (hbr81.trans0 hE591)
   have hEr593 : Ext [] wc586 wc586 := Ext.refl _ _
   refine rgn 4 <| sd ww [.lds [S.lv, S.nv, I6 S.st, S.pv]] [_, _, _, _] [(226, .agg S.ca)] [] 1 3 hS (hB587.k 0 (hB587.k 1 (hB587.k 2 (hB587.k 3 .nil)))) fun a hS => ecl 2 (some 227) hS Tryd.call13 #[.agg S.ca] (Lend_b hG (hbr593.trans0 hEr593) hXx) ?_
   rintro _ wlt ⟨gl, gn, gp, ls, qs, rfl, hL, hElt⟩
   refine ⟨_, rfl, fun a hS => ?_⟩
   have hE594 := hEr593.trans0 hElt
   have hG2 := hL.sp hG
   have hT2 := hT.ext0 (hbr593.trans0 hE594)
   refine ebx 1 #[.slice none 0 0, .slice none 0 0, I6 0, .slice none 0 0] 26 (some 27) hS fun a w595 hw596 hS => ?_
   have hn597 := Nat.ne_of_lt hL.op.lt
   have hB598 := OwnR.at' hw596 (hL.op.alloc _)
   have hX599 : Ext [] wlt w595 := by rw [hw596]; exact (Ext.refl _ _).alloc _
   have hG600 : Ext [] wlt w595 := (Ext.refl [] wlt).trans0 hX599
   have hG601 : LentOk w595 wc586.heap.size S xs gl gn gp ls qs := hL.ext0 hX599
   have hB602 := Blk.nw hw596
   have hs603 := hE594.size
   have hE604 := hE594.al hw596
   refine est 0 wlt.heap.size 0 [Sl gl S.lx.length (S.lx.length + 1), Sl gn S.ns.length (S.ns.length + 1), I6 S.st, Sl gp S.ps.length (S.ps.length + 1)] hS hB602 fun a w605 hw606 hS => ?_
   have hB607 := OwnR.at' hw606 (hB598.updNe (Ne.symm hn597) _ _)
   have hB608 : Blk w605 wlt.heap.size 26 (#[Sl gl S.lx.length (S.lx.length + 1), Sl gn S.ns.length (S.ns.length + 1), I6 S.st, Sl gp S.ps.length (S.ps.length + 1)]) := hB602.up hw606
   have hX609 : Ext [wlt.heap.size] w595 w605 := by rw [hw606]; exact (Ext.refl _ _).updIn (.inl (by simp)) _ _
   have hG610 : Ext [] wlt w605 := hG600.trans hX609 (fun b hb => by simp at hb; rw [hb]; exact .inr (by first | exact Nat.le_refl _ | omega))
   have hG611 : LentOk w605 wc586.heap.size S xs gl gn gp ls qs := hG601.extT hX609 hB602 (by decide) (by decide) (by decide) (by decide) (by decide)
   have hE612 := hE604.ui hw606 hs603
   refine sge hK592 <| sq fun K613 hK613 => rgn 2 <| sd ww [.lds [Sl gl S.lx.length (S.lx.length + 1), Sl gn S.ns.length (S.ns.length + 1), I6 S.st, Sl gp S.ps.length (S.ps.length + 1)]] [_, _, _, _] [(228, .agg #[Sl gl S.lx.length (S.lx.length + 1), Sl gn S.ns.length (S.ns.length + 1), I6 S.st, Sl gp S.ps.length (S.ps.length + 1)])] [] 1 1 hS (hB608.k 0 (hB608.k 1 (hB608.k 2 (hB608.k 3 .nil)))) fun a hS => ecl 0 (some 229) hS Tryd.call27 #[.agg #[Sl gl S.lx.length (S.lx.length + 1), Sl gn S.ns.length (S.ns.length + 1), I6 S.st, Sl gp S.ps.length (S.ps.length + 1)]] (told_x hL.ca hG2 hG610 hT2) ?_
   rintro _ wc614 ⟨v0614, rfl, hEc614⟩
   refine ⟨_, rfl, fun a hS => ?_⟩
   have hB615 := hB607.ext hEc614 (by simp)
   have hB616 := hB608.ext hEc614 (by simp)
   have hG617 : Ext [] wlt wc614 := hG610.trans0 hEc614
   have hG618 : LentOk wc614 wc586.heap.size S xs gl gn gp ls qs := hG611.ext0 hEc614
   have hE619 := hE612.trans0 hEc614
   refine sge hK613 <| sq fun K620 hK620 => sdq 4 [.p, .ld (Sl gp S.ps.length (S.ps.length + 1)), .p, .as (.bool true)] [_, Value.bool (decide ((↑S.ps.length : Int) > 0)) = .bool true] [(233, .bool true)] [] hS (hB616.k 3 (.c (as_t (by omega)) .nil)) fun a hS => ?_
   refine cond_t hS rfl ?_
   have hqsl := hL.ps.len
   obtain ⟨q0, hq0⟩ : ∃ q, qs[0]? = some q := gE
   obtain ⟨p0, hp0⟩ : ∃ p, S.ps[0]? = some p := ⟨_, List.getElem?_eq_getElem hpos⟩
   obtain ⟨_, _, g0, hg0, _⟩ := hL.ps.is 0 p0 q0 hp0 hq0
   have hqrd := hG2.right q0 (List.mem_of_getElem? hq0)
   refine gh3 (G := World) [.q .p, .q (.ld (Sl gp S.ps.length (S.ps.length + 1))), .q .p, .q (.ld (Sl gp S.ps.length (S.ps.length + 1))), .q (.run ((Pv gp))), .q .p, .q (.ld (q0.rv)), .q (.run (.slice q0.ra 0 q0.rc)), .q (.run ((Pv gp))), .q .p, .e] [0, 0, 0, 0, 0, 0, 0, 0, 0, 0, 0] [0, 0, 0, 0, 0, 0, 0, 0, 0, 0, 0] [0, 1, 0, 4, 12, 28, 60, 124, 255, 511, 1023] [10] [(10, 0)] 1 (fun ws622 => ([(1, (Pv w.heap.size)), (6, (Pv wc55.heap.size)), (7, .slice K.ab K.an K.ac), (8, .slice K.hb K.hn K.hc), (9, .slice K.ob K.on K.oc), (10, .slice K.eb K.en K.ec), (11, I6 turn), (19, (Pv wl87.heap.size)), (21, (Pv x31_13)), (20, .slice qb qn qc), (22, (Pv wc471.heap.size)), (23, .bool true), (211, .bool false), (25, (Pv wc561.heap.size)), (225, .bool false), (27, (Pv wlt.heap.size)), (233, .bool true), (234, (Po wlt.heap.size 3)), (235, Sl gp S.ps.length (S.ps.length + 1)), (236, (Po wlt.heap.size 3)), (237, Sl gp S.ps.length (S.ps.length + 1)), (238, (Pv gp)), (239, (Po gp 1)), (240, q0.rv), (241, (.slice q0.ra 0 q0.rc)), (242, (Pv gp)), (243, (Po gp 1))] : Fm)) (fun ws622 => [wc614.drew, ws622]) (wc614.drew) (fun e ws622 => hAt [True, (OwnR ws622 73 2 gp (S.ps.length + 1) (S.ps.length + 1) ((pcells qs ++ markP).set 1 (.slice q0.ra 0 q0.rc))) ∧ (Ext [gp] wc614.drew ws622) ∧ True] e) (fun ws622 w' => [(1, [w'.cell? ⟨wlt.heap.size, 3, none⟩ = some (Sl gp S.ps.length (S.ps.length + 1))]), (3, [w'.cell? ⟨wlt.heap.size, 3, none⟩ = some (Sl gp S.ps.length (S.ps.length + 1))]), (4, [Rv (Instr.indexAt 24 (Sl gp S.ps.length (S.ps.length + 1)) (I6 0)) ((Pv gp)) w']), (6, [w'.cell? ⟨gp, 1, none⟩ = some (q0.rv)]), (7, [Rv (Instr.sliceAt 71 q0.rv none (some (I6 0)) none) (.slice q0.ra 0 q0.rc) w']), (8, [Rv (Instr.indexAt 24 (Sl gp S.ps.length (S.ps.length + 1)) (I6 0)) ((Pv gp)) w'])]) wc614.drew [1, 6, 7, 8, 9, 10, 11, 19, 21, 20, 22, 23, 211, 25, 225, 27, 233] [] hS (fun ws622 _ => by kernel_rfl) trivial ?_ ?_ ?_
   ·rintro e ws622 w' hw hH
    refine (.c ?_ (.c ?_ (.c ?_ (.c ?_ (.c ?_ (.c ?_ .nil))))))
    ·intro h1 h2
     obtain rfl := Nat.le_antisymm h2 h1
     have hwe : wc614.drew = w' := hwz hw
     subst hwe
     clear hH
     exact (.c ((hB616.drew : Blk wc614.drew wlt.heap.size 26 (#[Sl gl S.lx.length (S.lx.length + 1), Sl gn S.ns.length (S.ns.length + 1), I6 S.st, Sl gp S.ps.length (S.ps.length + 1)])).cell 3 rfl) .nil)
    ·intro h1 h2
     obtain rfl := Nat.le_antisymm h2 h1
     have hwe : wc614.drew = w' := hwz hw
     subst hwe
     clear hH
     exact (.c ((hB616.drew : Blk wc614.drew wlt.heap.size 26 (#[Sl gl S.lx.length (S.lx.length + 1), Sl gn S.ns.length (S.ns.length + 1), I6 S.st, Sl gp S.ps.length (S.ps.length + 1)])).cell 3 rfl) .nil)
    ·intro h1 h2
     obtain rfl := Nat.le_antisymm h2 h1
     have hwe : wc614.drew = w' := hwz hw
     subst hwe
     clear hH
     exact (.c (ixs 73 2 0) .nil)
    ·intro h1 h2
     obtain rfl := Nat.le_antisymm h2 h1
     have hwe : wc614.drew = w' := hwz hw
     subst hwe
     clear hH
     exact (.c ((hB615.drew : OwnR wc614.drew 73 2 gp (S.ps.length + 1) (S.ps.length + 1) (pcells qs ++ markP)).cellAt _ (pc_one hq0 _)) .nil)
    ·intro h1 h2
     obtain rfl := Nat.le_antisymm h2 h1
     have hwe : wc614.drew = w' := hwz hw
     subst hwe
     clear hH
     exact (.c (sl_cut hqrd hg0) .nil)
    ·intro h1 h2
     obtain rfl := Nat.le_antisymm h2 h1
     have hwe : wc614.drew = w' := hwz hw
     subst hwe
     clear hH
     exact (.c (ixs 73 2 0) .nil)
   ·refine (.c ?eq623_10 .nil)
    ·rintro ws622 hH
     clear hH
     refine eff_gh (wc614.drew) (by kernel_rfl) ?_
     refine upon_store_own (b := gp) (off := 1) (u := (.slice q0.ra 0 q0.rc)) (xs := (pcells qs ++ markP)) (by kernel_rfl) (hB615.drew : OwnR wc614.drew 73 2 gp (S.ps.length + 1) (S.ps.length + 1) (pcells qs ++ markP)) (by omega) fun ws622 hOs622 hEs622 hsz622 => ?_
     exact ⟨ws622, by kernel_rfl, by kernel_rfl, by kernel_rfl, ⟨hOs622, hEs622, trivial⟩⟩
   rintro ws622 a w624 hS hw625 hH
   obtain ⟨hOs622, hEs622, _⟩ := hH
   replace hw625 : w624 = ws622 := hw625.trans (by kernel_rfl)
   have hB626 := Blk.at' hw625 ((hB616.drew : Blk wc614.drew wlt.heap.size 26 (#[Sl gl S.lx.length (S.lx.length + 1), Sl gn S.ns.length (S.ns.length + 1), I6 S.st, Sl gp S.ps.length (S.ps.length + 1)])).ext hEs622 (by simpa using (Ne.symm hn597)))
   have hB627 : OwnR w624 73 2 gp (S.ps.length + 1) (S.ps.length + 1) ((pcells qs ++ markP).set 1 (.slice q0.ra 0 q0.rc)) := by rw [hw625]; exact hOs622
   have hE628 : Ext [] wc586 w624 := by rw [hw625]; exact (hE619.drew).trans hEs622 (fun b hb => by simp at hb; subst hb; exact .inr hL.new.2.2)
   have hX629 : Ext [gp] wc614 w624 := by rw [hw625]; exact ((Ext.refl _ _).drew).trans hEs622 (by simp)
   have hG630 : Ext [gp] wc614 w624 := (Ext.refl [gp] wc614).trans hX629 (fun b hb => by first | exact .inl hb | cases hb)
   replace hS := hS.kp [(1, (Pv w.heap.size)), (6, (Pv wc55.heap.size)), (7, .slice K.ab K.an K.ac), (8, .slice K.hb K.hn K.hc), (9, .slice K.ob K.on K.oc), (10, .slice K.eb K.en K.ec), (11, I6 turn), (19, (Pv wl87.heap.size)), (21, (Pv x31_13)), (20, .slice qb qn qc), (22, (Pv wc471.heap.size)), (23, .bool true), (211, .bool false), (25, (Pv wc561.heap.size)), (225, .bool false), (27, (Pv wlt.heap.size)), (233, .bool true)]
   refine hK620 _ _ <| sq fun K631 hK631 => ?_
   obtain ⟨hG3, hX3⟩ := hG618.cut hG (hXx.ext0 (hbr593.trans0 hE628)) hG630 (by rw [← pcells_cut hq0 markP]; exact hB627)
   have hc3 := hL.ca3
   have hT3 := hT.ext0 (hbr593.trans0 hE628)
   have hbr632 : Ext [] w0 w624 := (hbr593.trans0 hE628)
   have hEr632 : Ext [] w624 w624 := Ext.refl _ _
   refine rgn 10 <| sd ww [.lds [Sl gl S.lx.length (S.lx.length + 1), Sl gn S.ns.length (S.ns.length + 1), I6 S.st, Sl gp S.ps.length (S.ps.length + 1)]] [_, _, _, _] [(245, .agg #[Sl gl S.lx.length (S.lx.length + 1), Sl gn S.ns.length (S.ns.length + 1), I6 S.st, Sl gp S.ps.length (S.ps.length + 1)])] [] 1 9 hS (hB626.k 0 (hB626.k 1 (hB626.k 2 (hB626.k 3 .nil)))) fun a hS => ecl 8 (some 246) hS Tryd.call27 #[.agg #[Sl gl S.lx.length (S.lx.length + 1), Sl gn S.ns.length (S.ns.length + 1), I6 S.st, Sl gp S.ps.length (S.ps.length + 1)]] (told_u hc3 hG3 hEr632 hT3) ?_
   rintro _ wc633 ⟨z633, q633, rfl, hZ633, hB1633, hEc633⟩
   refine ⟨_, rfl, fun a hS => ?_⟩
   have hB634 := hB626.ext hEc633 (by simp)
   have hE635 := hEr632.trans0 hEc633
   refine sg ww [.p, .p, .p, .p] [] [(1, (Pv w.heap.size)), (6, (Pv wc55.heap.size)), (7, .slice K.ab K.an K.ac), (8, .slice K.hb K.hn K.hc), (9, .slice K.ob K.on K.oc), (10, .slice K.eb K.en K.ec), (11, I6 turn), (19, (Pv wl87.heap.size)), (21, (Pv x31_13)), (20, .slice qb qn qc), (22, (Pv wc471.heap.size)), (23, .bool true), (211, .bool false), (25, (Pv wc561.heap.size)), (225, .bool false), (27, (Pv wlt.heap.size)), (233, .bool true), (247, .agg #[.slice q633.a0 q633.n0 q633.k0, .slice q633.a1 q633.n1 q633.k1, .slice q633.a2 q633.n2 q633.k2, .slice q633.a3 q633.n3 q633.k3, .bool q633.fu]), (248, .bool (decide (z633.1 = 0))), (249, .bool true)] 6 4 hS .nil fun a hS => ebx 3 #[.slice none 0 0, .slice none 0 0, .slice none 0 0, .slice none 0 0, .bool false] 53 (some 28) hS fun a w636 hw637 hS => ?_
   have hn638 := Nat.ne_of_lt hB634.lt
   have hB639 := Blk.at' hw637 (hB634.alloc _)
   have hX640 : Ext [] wc633 w636 := by rw [hw637]; exact (Ext.refl _ _).alloc _
   have hG641 : Tb (lentS S gl gn gp ls (cutP qs)) w624.heap.size w636 z633 q633 := hB1633.ext0 hX640
   have hB642 := Blk.nw hw637
   have hs643 := hE635.size
   have hE644 := hE635.al hw637
   refine est 2 wc633.heap.size 0 [.slice q633.a0 q633.n0 q633.k0, .slice q633.a1 q633.n1 q633.k1, .slice q633.a2 q633.n2 q633.k2, .slice q633.a3 q633.n3 q633.k3, .bool q633.fu] hS hB642 fun a w645 hw646 hS => ?_
   have hB647 := Blk.at' hw646 (hB639.updNe (Ne.symm hn638) _ _)
   have hB648 : Blk w645 wc633.heap.size 53 (#[.slice q633.a0 q633.n0 q633.k0, .slice q633.a1 q633.n1 q633.k1, .slice q633.a2 q633.n2 q633.k2, .slice q633.a3 q633.n3 q633.k3, .bool q633.fu]) := hB642.up hw646
   have hX649 : Ext [wc633.heap.size] w636 w645 := by rw [hw646]; exact (Ext.refl _ _).updIn (.inl (by simp)) _ _
   have hG650 : Tb (lentS S gl gn gp ls (cutP qs)) w624.heap.size w645 z633 q633 := hG641.extT hX649 hB642 (by decide) (by decide) (by decide)
   have hE651 := hE644.ui hw646 hs643
   refine sd ww [.p, .p] [] [(29, .bool (decide (z633.1 = 0))), (30, .bool true)] [] 10 0 hS .nil fun a hS => sge hK631 <| sq fun K652 hK652 => rgn 11 <| sd ww [.lds [Sl gl S.lx.length (S.lx.length + 1), Sl gn S.ns.length (S.ns.length + 1), I6 S.st, Sl gp S.ps.length (S.ps.length + 1)]] [_, _, _, _] [(251, .agg #[Sl gl S.lx.length (S.lx.length + 1), Sl gn S.ns.length (S.ns.length + 1), I6 S.st, Sl gp S.ps.length (S.ps.length + 1)])] [] 1 10 hS (hB647.k 0 (hB647.k 1 (hB647.k 2 (hB647.k 3 .nil)))) fun a hS => ecl 9 (some 252) hS Tryd.call13 #[.agg #[Sl gl S.lx.length (S.lx.length + 1), Sl gn S.ns.length (S.ns.length + 1), I6 S.st, Sl gp S.ps.length (S.ps.length + 1)]] (Lend_u hc3 hG3 hE651 hX3) ?_
   rintro _ wc653 ⟨S5653, rfl, hL5653, hEc653⟩
   refine ⟨_, rfl, fun a hS => ?_⟩
   have hB654 := hB647.ext hEc653 (by simp)
   have hB655 := hB648.ext hEc653 (by simp)
   have hG656 : Tb (lentS S gl gn gp ls (cutP qs)) w624.heap.size wc653 z633 q633 := hG650.ext0 hEc653
   have hE657 := hE651.trans0 hEc653
   have hT5 := hT3.ext0 hE657
   have hz5 := hL5653.2.chk hZ633
   refine ecl 8 (some 253) hS Tryd.call27 #[.agg #[S5653.lv, S5653.nv, I6 S5653.st, S5653.pv]] (told_uz hz5 rfl hL5653.1 (Ext.refl [] wc653) hT5) ?_
   rintro _ wc658 ⟨r658, rfl, hB2658, hEc658⟩
   refine ⟨_, rfl, fun a hS => ?_⟩
   have hB659 := hB654.ext hEc658 (by simp)
   have hB660 := hB655.ext hEc658 (by simp)
   have hG661 : Tb (lentS S gl gn gp ls (cutP qs)) w624.heap.size wc658 z633 q633 := hG656.ext0 hEc658
   have hG662 : Ext [] wc653 wc658 := (Ext.refl [] wc653).trans0 hEc658
   have hE663 := hE657.trans0 hEc658
   refine sd ww [.p, .p, .p, .p] [] [(254, .agg #[.slice r658.a0 r658.n0 r658.k0, .slice r658.a1 r658.n1 r658.k1, .slice r658.a2 r658.n2 r658.k2, .slice r658.a3 r658.n3 r658.k3, .bool r658.fu]), (255, .bool (decide (z633.1 = 0))), (256, .bool true)] [] 7 4 hS .nil fun a hS => ebx 3 #[.slice none 0 0, .slice none 0 0, .slice none 0 0, .slice none 0 0, .bool false] 53 (some 31) hS fun a w664 hw665 hS => ?_
   have hn666 := Nat.ne_of_lt hB659.lt
   have hn667 := Nat.ne_of_lt hB660.lt
   have hB668 := Blk.at' hw665 (hB659.alloc _)
   have hB669 := Blk.at' hw665 (hB660.alloc _)
   have hX670 : Ext [] wc658 w664 := by rw [hw665]; exact (Ext.refl _ _).alloc _
   have hG671 : Tb (lentS S gl gn gp ls (cutP qs)) w624.heap.size w664 z633 q633 := hG661.ext0 hX670
   have hG672 : Tb S5653 wc653.heap.size w664 z633 r658 := hB2658.ext0 hX670
   have hB673 := Blk.nw hw665
   have hs674 := hE663.size
   have hE675 := hE663.al hw665
   refine est 2 wc658.heap.size 0 [.slice r658.a0 r658.n0 r658.k0, .slice r658.a1 r658.n1 r658.k1, .slice r658.a2 r658.n2 r658.k2, .slice r658.a3 r658.n3 r658.k3, .bool r658.fu] hS hB673 fun a w676 hw677 hS => ?_
   have hB678 := Blk.at' hw677 (hB668.updNe (Ne.symm hn666) _ _)
   have hB679 := Blk.at' hw677 (hB669.updNe (Ne.symm hn667) _ _)
   have hB680 : Blk w676 wc658.heap.size 53 (#[.slice r658.a0 r658.n0 r658.k0, .slice r658.a1 r658.n1 r658.k1, .slice r658.a2 r658.n2 r658.k2, .slice r658.a3 r658.n3 r658.k3, .bool r658.fu]) := hB673.up hw677
   have hX681 : Ext [wc658.heap.size] w664 w676 := by rw [hw677]; exact (Ext.refl _ _).updIn (.inl (by simp)) _ _
   have hG682 : Tb (lentS S gl gn gp ls (cutP qs)) w624.heap.size w676 z633 q633 := hG671.extT hX681 hB673 (by decide) (by decide) (by decide)
   have hG683 : Tb S5653 wc653.heap.size w676 z633 r658 := hG672.extT hX681 hB673 (by decide) (by decide) (by decide)
   have hE684 := hE675.ui hw677 hs674
   refine sd ww [.p, .p] [] [(32, .bool (decide (z633.1 = 0))), (33, .bool true)] [] 11 0 hS .nil fun a hS => sge hK652 <| sq fun K685 hK685 => ?_
   refine gh3 (G := World × Sp × World × World × World) [.q .p, .q .p, .q (.as (.bool true)), .q .p, .q .p, .q .p, .q .p, .q .p, .q .p, .q .p, .q (.lds [Sl gl S.lx.length (S.lx.length + 1), Sl gn S.ns.length (S.ns.length + 1), I6 S.st, Sl gp S.ps.length (S.ps.length + 1)]), .e, .q (.lds [Sl gl S.lx.length (S.lx.length + 1), Sl gn S.ns.length (S.ns.length + 1), I6 S.st, Sl gp S.ps.length (S.ps.length + 1)]), .e, .e, .q (.run (.bool true)), .q .p, .q .p, .q (.lds [.slice q633.a0 q633.n0 q633.k0, .slice q633.a1 q633.n1 q633.k1, .slice q633.a2 q633.n2 q633.k2, .slice q633.a3 q633.n3 q633.k3, .bool q633.fu]), .q (.lds [.slice r658.a0 r658.n0 r658.k0, .slice r658.a1 r658.n1 r658.k1, .slice r658.a2 r658.n2 r658.k2, .slice r658.a3 r658.n3 r658.k3, .bool r658.fu]), .e, .q .p, .q .p] [0, 0, 0, 0, 0, 0, 0, 0, 0, 0, 0, 0, 0, 1, 2, 3, 3, 3, 3, 3, 3, 4, 4] [0, 0, 0, 0, 0, 0, 0, 0, 0, 0, 0, 0, 1, 1, 2, 3, 3, 3, 3, 3, 3, 4, 4] [0, 0, 3, 7, 15, 31, 63, 127, 255, 511, 1023, 2047, 1023, 8191, 16383, 32767, 65535, 131071, 262143, 262143, 1048575, 2097151, 4194303] [11, 13, 14, 20] [(11, 0), (13, 1), (14, 2), (20, 3)] 4 (fun ⟨wc686, S6687, wc687, wc688, wc689⟩ => ([(1, (Pv w.heap.size)), (6, (Pv wc55.heap.size)), (7, .slice K.ab K.an K.ac), (8, .slice K.hb K.hn K.hc), (9, .slice K.ob K.on K.oc), (10, .slice K.eb K.en K.ec), (11, I6 turn), (19, (Pv wl87.heap.size)), (21, (Pv x31_13)), (20, .slice qb qn qc), (22, (Pv wc471.heap.size)), (23, .bool true), (211, .bool false), (25, (Pv wc561.heap.size)), (225, .bool false), (27, (Pv wlt.heap.size)), (233, .bool true), (28, (Pv wc633.heap.size)), (29, .bool (decide (z633.1 = 0))), (30, .bool true), (31, (Pv wc658.heap.size)), (32, .bool (decide (z633.1 = 0))), (33, .bool true), (257, .bool (decide (z633.1 = 0))), (258, .bool (decide (z633.1 = 0))), (259, .bool true), (260, .bool true), (261, .bool true), (262, .bool true), (263, .bool true), (264, .bool true), (265, .bool true), (266, .bool true), (267, .agg #[Sl gl S.lx.length (S.lx.length + 1), Sl gn S.ns.length (S.ns.length + 1), I6 S.st, Sl gp S.ps.length (S.ps.length + 1)]), (268, .agg #[I6 z633.1, I6 z633.2, .string ⟨#[]⟩]), (269, .agg #[Sl gl S.lx.length (S.lx.length + 1), Sl gn S.ns.length (S.ns.length + 1), I6 S.st, Sl gp S.ps.length (S.ps.length + 1)]), (270, .agg #[S6687.lv, S6687.nv, I6 S6687.st, S6687.pv]), (271, .agg #[I6 z633.1, I6 z633.2, .string ⟨#[]⟩]), (272, .bool true), (273, .bool true), (274, .bool true), (275, .agg #[.slice q633.a0 q633.n0 q633.k0, .slice q633.a1 q633.n1 q633.k1, .slice q633.a2 q633.n2 q633.k2, .slice q633.a3 q633.n3 q633.k3, .bool q633.fu]), (276, .agg #[.slice r658.a0 r658.n0 r658.k0, .slice r658.a1 r658.n1 r658.k1, .slice r658.a2 r658.n2 r658.k2, .slice r658.a3 r658.n3 r658.k3, .bool r658.fu]), (277, .bool true), (278, .bool true), (2, .bool true)] : Fm)) (fun ⟨wc686, S6687, wc687, wc688, wc689⟩ => [w676.drew, wc686, wc687, wc688, wc689]) (w676.drew) (fun e ⟨wc686, S6687, wc687, wc688, wc689⟩ => hAt [True, (Ext [] w676.drew wc686) ∧ True, (Ext [] w676.drew wc686) ∧ (SpOk wc687 S6687 ∧ Same (lentS S gl gn gp ls (cutP qs)) S6687) ∧ (Ext [] wc686 wc687) ∧ True, (Ext [] w676.drew wc686) ∧ (SpOk wc687 S6687 ∧ Same (lentS S gl gn gp ls (cutP qs)) S6687) ∧ (Ext [] wc686 wc687) ∧ (Ext [] wc687 wc688) ∧ True, (Ext [] w676.drew wc686) ∧ (SpOk wc687 S6687 ∧ Same (lentS S gl gn gp ls (cutP qs)) S6687) ∧ (Ext [] wc686 wc687) ∧ (Ext [] wc687 wc688) ∧ (Ext [] wc688 wc689) ∧ True] e) (fun ⟨wc686, S6687, wc687, wc688, wc689⟩ w' => [(2, [Value.bool (((decide (z633.1 = 0)) == (decide (z633.1 = 0)))) = .bool true]), (10, [w'.cell? ⟨wlt.heap.size, 0, none⟩ = some (Sl gl S.lx.length (S.lx.length + 1)), w'.cell? ⟨wlt.heap.size, 1, none⟩ = some (Sl gn S.ns.length (S.ns.length + 1)), w'.cell? ⟨wlt.heap.size, 2, none⟩ = some (I6 S.st), w'.cell? ⟨wlt.heap.size, 3, none⟩ = some (Sl gp S.ps.length (S.ps.length + 1))]), (12, [w'.cell? ⟨wlt.heap.size, 0, none⟩ = some (Sl gl S.lx.length (S.lx.length + 1)), w'.cell? ⟨wlt.heap.size, 1, none⟩ = some (Sl gn S.ns.length (S.ns.length + 1)), w'.cell? ⟨wlt.heap.size, 2, none⟩ = some (I6 S.st), w'.cell? ⟨wlt.heap.size, 3, none⟩ = some (Sl gp S.ps.length (S.ps.length + 1))]), (15, [Rv (do eqGuard .eql 34 (.tmp 268) (.tmp 271) (.agg #[I6 z633.1, I6 z633.2, .string ⟨#[]⟩]) (.agg #[I6 z633.1, I6 z633.2, .string ⟨#[]⟩]); binOp .eql 34 (.agg #[I6 z633.1, I6 z633.2, .string ⟨#[]⟩]) (.agg #[I6 z633.1, I6 z633.2, .string ⟨#[]⟩])) (.bool true) w']), (18, [w'.cell? ⟨wc633.heap.size, 0, none⟩ = some (.slice q633.a0 q633.n0 q633.k0), w'.cell? ⟨wc633.heap.size, 1, none⟩ = some (.slice q633.a1 q633.n1 q633.k1), w'.cell? ⟨wc633.heap.size, 2, none⟩ = some (.slice q633.a2 q633.n2 q633.k2), w'.cell? ⟨wc633.heap.size, 3, none⟩ = some (.slice q633.a3 q633.n3 q633.k3), w'.cell? ⟨wc633.heap.size, 4, none⟩ = some (.bool q633.fu)]), (19, [w'.cell? ⟨wc658.heap.size, 0, none⟩ = some (.slice r658.a0 r658.n0 r658.k0), w'.cell? ⟨wc658.heap.size, 1, none⟩ = some (.slice r658.a1 r658.n1 r658.k1), w'.cell? ⟨wc658.heap.size, 2, none⟩ = some (.slice r658.a2 r658.n2 r658.k2), w'.cell? ⟨wc658.heap.size, 3, none⟩ = some (.slice r658.a3 r658.n3 r658.k3), w'.cell? ⟨wc658.heap.size, 4, none⟩ = some (.bool r658.fu)])]) (w676.drew, S, w, w, w) [1, 6, 7, 8, 9, 10, 11, 19, 21, 20, 22, 23, 211, 25, 225, 27, 233, 28, 29, 30, 31, 32, 33] [] hS (fun ⟨wc686, S6687, wc687, wc688, wc689⟩ _ => by kernel_rfl) trivial ?_ ?_ ?_
   ·rintro e ⟨wc686, S6687, wc687, wc688, wc689⟩ w' hw hH
    refine (.c ?_ (.c ?_ (.c ?_ (.c ?_ (.c ?_ (.c ?_ .nil))))))
    ·intro h1 h2
     obtain rfl := Nat.le_antisymm h2 h1
     have hwe : w676.drew = w' := hwz hw
     subst hwe
     clear hH
     exact (.c (by simp) .nil)
    ·intro h1 h2
     obtain rfl := Nat.le_antisymm h2 h1
     have hwe : w676.drew = w' := hwz hw
     subst hwe
     clear hH
     exact (.c ((hB678.drew : Blk w676.drew wlt.heap.size 26 (#[Sl gl S.lx.length (S.lx.length + 1), Sl gn S.ns.length (S.ns.length + 1), I6 S.st, Sl gp S.ps.length (S.ps.length + 1)])).cell 0 rfl) (.c ((hB678.drew : Blk w676.drew wlt.heap.size 26 (#[Sl gl S.lx.length (S.lx.length + 1), Sl gn S.ns.length (S.ns.length + 1), I6 S.st, Sl gp S.ps.length (S.ps.length + 1)])).cell 1 rfl) (.c ((hB678.drew : Blk w676.drew wlt.heap.size 26 (#[Sl gl S.lx.length (S.lx.length + 1), Sl gn S.ns.length (S.ns.length + 1), I6 S.st, Sl gp S.ps.length (S.ps.length + 1)])).cell 2 rfl) (.c ((hB678.drew : Blk w676.drew wlt.heap.size 26 (#[Sl gl S.lx.length (S.lx.length + 1), Sl gn S.ns.length (S.ns.length + 1), I6 S.st, Sl gp S.ps.length (S.ps.length + 1)])).cell 3 rfl) .nil))))
    ·intro h1 h2
     replace h1 : 0 ≤ e := h1
     replace h2 : e ≤ 1 := h2
     have he : e = 0 ∨ e = 1 := by omega
     rcases he with rfl | rfl
     ·have hwe : w676.drew = w' := hwz hw
      subst hwe
      clear hH
      exact (.c ((hB678.drew : Blk w676.drew wlt.heap.size 26 (#[Sl gl S.lx.length (S.lx.length + 1), Sl gn S.ns.length (S.ns.length + 1), I6 S.st, Sl gp S.ps.length (S.ps.length + 1)])).cell 0 rfl) (.c ((hB678.drew : Blk w676.drew wlt.heap.size 26 (#[Sl gl S.lx.length (S.lx.length + 1), Sl gn S.ns.length (S.ns.length + 1), I6 S.st, Sl gp S.ps.length (S.ps.length + 1)])).cell 1 rfl) (.c ((hB678.drew : Blk w676.drew wlt.heap.size 26 (#[Sl gl S.lx.length (S.lx.length + 1), Sl gn S.ns.length (S.ns.length + 1), I6 S.st, Sl gp S.ps.length (S.ps.length + 1)])).cell 2 rfl) (.c ((hB678.drew : Blk w676.drew wlt.heap.size 26 (#[Sl gl S.lx.length (S.lx.length + 1), Sl gn S.ns.length (S.ns.length + 1), I6 S.st, Sl gp S.ps.length (S.ps.length + 1)])).cell 3 rfl) .nil))))
     ·have hwe : wc686 = w' := hwz hw
      subst hwe
      obtain ⟨hEc686, _⟩ := hH
      exact (.c (((hB678.drew : Blk w676.drew wlt.heap.size 26 (#[Sl gl S.lx.length (S.lx.length + 1), Sl gn S.ns.length (S.ns.length + 1), I6 S.st, Sl gp S.ps.length (S.ps.length + 1)])).ext hEc686 (by simp) : Blk wc686 wlt.heap.size 26 (#[Sl gl S.lx.length (S.lx.length + 1), Sl gn S.ns.length (S.ns.length + 1), I6 S.st, Sl gp S.ps.length (S.ps.length + 1)])).cell 0 rfl) (.c (((hB678.drew : Blk w676.drew wlt.heap.size 26 (#[Sl gl S.lx.length (S.lx.length + 1), Sl gn S.ns.length (S.ns.length + 1), I6 S.st, Sl gp S.ps.length (S.ps.length + 1)])).ext hEc686 (by simp) : Blk wc686 wlt.heap.size 26 (#[Sl gl S.lx.length (S.lx.length + 1), Sl gn S.ns.length (S.ns.length + 1), I6 S.st, Sl gp S.ps.length (S.ps.length + 1)])).cell 1 rfl) (.c (((hB678.drew : Blk w676.drew wlt.heap.size 26 (#[Sl gl S.lx.length (S.lx.length + 1), Sl gn S.ns.length (S.ns.length + 1), I6 S.st, Sl gp S.ps.length (S.ps.length + 1)])).ext hEc686 (by simp) : Blk wc686 wlt.heap.size 26 (#[Sl gl S.lx.length (S.lx.length + 1), Sl gn S.ns.length (S.ns.length + 1), I6 S.st, Sl gp S.ps.length (S.ps.length + 1)])).cell 2 rfl) (.c (((hB678.drew : Blk w676.drew wlt.heap.size 26 (#[Sl gl S.lx.length (S.lx.length + 1), Sl gn S.ns.length (S.ns.length + 1), I6 S.st, Sl gp S.ps.length (S.ps.length + 1)])).ext hEc686 (by simp) : Blk wc686 wlt.heap.size 26 (#[Sl gl S.lx.length (S.lx.length + 1), Sl gn S.ns.length (S.ns.length + 1), I6 S.st, Sl gp S.ps.length (S.ps.length + 1)])).cell 3 rfl) .nil))))
    ·intro h1 h2
     obtain rfl := Nat.le_antisymm h2 h1
     have hwe : wc688 = w' := hwz hw
     subst hwe
     obtain ⟨hEc686, hL6687, hEc687, hEc688, _⟩ := hH
     exact (.c ((bin_agg_same (by kernel_rfl)).1) .nil)
    ·intro h1 h2
     obtain rfl := Nat.le_antisymm h2 h1
     have hwe : wc688 = w' := hwz hw
     subst hwe
     obtain ⟨hEc686, hL6687, hEc687, hEc688, _⟩ := hH
     exact (.c (((((hB679.drew : Blk w676.drew wc633.heap.size 53 (#[.slice q633.a0 q633.n0 q633.k0, .slice q633.a1 q633.n1 q633.k1, .slice q633.a2 q633.n2 q633.k2, .slice q633.a3 q633.n3 q633.k3, .bool q633.fu])).ext hEc686 (by simp) : Blk wc686 wc633.heap.size 53 (#[.slice q633.a0 q633.n0 q633.k0, .slice q633.a1 q633.n1 q633.k1, .slice q633.a2 q633.n2 q633.k2, .slice q633.a3 q633.n3 q633.k3, .bool q633.fu])).ext hEc687 (by simp) : Blk wc687 wc633.heap.size 53 (#[.slice q633.a0 q633.n0 q633.k0, .slice q633.a1 q633.n1 q633.k1, .slice q633.a2 q633.n2 q633.k2, .slice q633.a3 q633.n3 q633.k3, .bool q633.fu])).ext hEc688 (by simp) : Blk wc688 wc633.heap.size 53 (#[.slice q633.a0 q633.n0 q633.k0, .slice q633.a1 q633.n1 q633.k1, .slice q633.a2 q633.n2 q633.k2, .slice q633.a3 q633.n3 q633.k3, .bool q633.fu])).cell 0 rfl) (.c (((((hB679.drew : Blk w676.drew wc633.heap.size 53 (#[.slice q633.a0 q633.n0 q633.k0, .slice q633.a1 q633.n1 q633.k1, .slice q633.a2 q633.n2 q633.k2, .slice q633.a3 q633.n3 q633.k3, .bool q633.fu])).ext hEc686 (by simp) : Blk wc686 wc633.heap.size 53 (#[.slice q633.a0 q633.n0 q633.k0, .slice q633.a1 q633.n1 q633.k1, .slice q633.a2 q633.n2 q633.k2, .slice q633.a3 q633.n3 q633.k3, .bool q633.fu])).ext hEc687 (by simp) : Blk wc687 wc633.heap.size 53 (#[.slice q633.a0 q633.n0 q633.k0, .slice q633.a1 q633.n1 q633.k1, .slice q633.a2 q633.n2 q633.k2, .slice q633.a3 q633.n3 q633.k3, .bool q633.fu])).ext hEc688 (by simp) : Blk wc688 wc633.heap.size 53 (#[.slice q633.a0 q633.n0 q633.k0, .slice q633.a1 q633.n1 q633.k1, .slice q633.a2 q633.n2 q633.k2, .slice q633.a3 q633.n3 q633.k3, .bool q633.fu])).cell 1 rfl) (.c (((((hB679.drew : Blk w676.drew wc633.heap.size 53 (#[.slice q633.a0 q633.n0 q633.k0, .slice q633.a1 q633.n1 q633.k1, .slice q633.a2 q633.n2 q633.k2, .slice q633.a3 q633.n3 q633.k3, .bool q633.fu])).ext hEc686 (by simp) : Blk wc686 wc633.heap.size 53 (#[.slice q633.a0 q633.n0 q633.k0, .slice q633.a1 q633.n1 q633.k1, .slice q633.a2 q633.n2 q633.k2, .slice q633.a3 q633.n3 q633.k3, .bool q633.fu])).ext hEc687 (by simp) : Blk wc687 wc633.heap.size 53 (#[.slice q633.a0 q633.n0 q633.k0, .slice q633.a1 q633.n1 q633.k1, .slice q633.a2 q633.n2 q633.k2, .slice q633.a3 q633.n3 q633.k3, .bool q633.fu])).ext hEc688 (by simp) : Blk wc688 wc633.heap.size 53 (#[.slice q633.a0 q633.n0 q633.k0, .slice q633.a1 q633.n1 q633.k1, .slice q633.a2 q633.n2 q633.k2, .slice q633.a3 q633.n3 q633.k3, .bool q633.fu])).cell 2 rfl) (.c (((((hB679.drew : Blk w676.drew wc633.heap.size 53 (#[.slice q633.a0 q633.n0 q633.k0, .slice q633.a1 q633.n1 q633.k1, .slice q633.a2 q633.n2 q633.k2, .slice q633.a3 q633.n3 q633.k3, .bool q633.fu])).ext hEc686 (by simp) : Blk wc686 wc633.heap.size 53 (#[.slice q633.a0 q633.n0 q633.k0, .slice q633.a1 q633.n1 q633.k1, .slice q633.a2 q633.n2 q633.k2, .slice q633.a3 q633.n3 q633.k3, .bool q633.fu])).ext hEc687 (by simp) : Blk wc687 wc633.heap.size 53 (#[.slice q633.a0 q633.n0 q633.k0, .slice q633.a1 q633.n1 q633.k1, .slice q633.a2 q633.n2 q633.k2, .slice q633.a3 q633.n3 q633.k3, .bool q633.fu])).ext hEc688 (by simp) : Blk wc688 wc633.heap.size 53 (#[.slice q633.a0 q633.n0 q633.k0, .slice q633.a1 q633.n1 q633.k1, .slice q633.a2 q633.n2 q633.k2, .slice q633.a3 q633.n3 q633.k3, .bool q633.fu])).cell 3 rfl) (.c (((((hB679.drew : Blk w676.drew wc633.heap.size 53 (#[.slice q633.a0 q633.n0 q633.k0, .slice q633.a1 q633.n1 q633.k1, .slice q633.a2 q633.n2 q633.k2, .slice q633.a3 q633.n3 q633.k3, .bool q633.fu])).ext hEc686 (by simp) : Blk wc686 wc633.heap.size 53 (#[.slice q633.a0 q633.n0 q633.k0, .slice q633.a1 q633.n1 q633.k1, .slice q633.a2 q633.n2 q633.k2, .slice q633.a3 q633.n3 q633.k3, .bool q633.fu])).ext hEc687 (by simp) : Blk wc687 wc633.heap.size 53 (#[.slice q633.a0 q633.n0 q633.k0, .slice q633.a1 q633.n1 q633.k1, .slice q633.a2 q633.n2 q633.k2, .slice q633.a3 q633.n3 q633.k3, .bool q633.fu])).ext hEc688 (by simp) : Blk wc688 wc633.heap.size 53 (#[.slice q633.a0 q633.n0 q633.k0, .slice q633.a1 q633.n1 q633.k1, .slice q633.a2 q633.n2 q633.k2, .slice q633.a3 q633.n3 q633.k3, .bool q633.fu])).cell 4 rfl) .nil)))))
    ·intro h1 h2
     obtain rfl := Nat.le_antisymm h2 h1
     have hwe : wc688 = w' := hwz hw
     subst hwe
     obtain ⟨hEc686, hL6687, hEc687, hEc688, _⟩ := hH
     exact (.c (((((hB680.drew : Blk w676.drew wc658.heap.size 53 (#[.slice r658.a0 r658.n0 r658.k0, .slice r658.a1 r658.n1 r658.k1, .slice r658.a2 r658.n2 r658.k2, .slice r658.a3 r658.n3 r658.k3, .bool r658.fu])).ext hEc686 (by simp) : Blk wc686 wc658.heap.size 53 (#[.slice r658.a0 r658.n0 r658.k0, .slice r658.a1 r658.n1 r658.k1, .slice r658.a2 r658.n2 r658.k2, .slice r658.a3 r658.n3 r658.k3, .bool r658.fu])).ext hEc687 (by simp) : Blk wc687 wc658.heap.size 53 (#[.slice r658.a0 r658.n0 r658.k0, .slice r658.a1 r658.n1 r658.k1, .slice r658.a2 r658.n2 r658.k2, .slice r658.a3 r658.n3 r658.k3, .bool r658.fu])).ext hEc688 (by simp) : Blk wc688 wc658.heap.size 53 (#[.slice r658.a0 r658.n0 r658.k0, .slice r658.a1 r658.n1 r658.k1, .slice r658.a2 r658.n2 r658.k2, .slice r658.a3 r658.n3 r658.k3, .bool r658.fu])).cell 0 rfl) (.c (((((hB680.drew : Blk w676.drew wc658.heap.size 53 (#[.slice r658.a0 r658.n0 r658.k0, .slice r658.a1 r658.n1 r658.k1, .slice r658.a2 r658.n2 r658.k2, .slice r658.a3 r658.n3 r658.k3, .bool r658.fu])).ext hEc686 (by simp) : Blk wc686 wc658.heap.size 53 (#[.slice r658.a0 r658.n0 r658.k0, .slice r658.a1 r658.n1 r658.k1, .slice r658.a2 r658.n2 r658.k2, .slice r658.a3 r658.n3 r658.k3, .bool r658.fu])).ext hEc687 (by simp) : Blk wc687 wc658.heap.size 53 (#[.slice r658.a0 r658.n0 r658.k0, .slice r658.a1 r658.n1 r658.k1, .slice r658.a2 r658.n2 r658.k2, .slice r658.a3 r658.n3 r658.k3, .bool r658.fu])).ext hEc688 (by simp) : Blk wc688 wc658.heap.size 53 (#[.slice r658.a0 r658.n0 r658.k0, .slice r658.a1 r658.n1 r658.k1, .slice r658.a2 r658.n2 r658.k2, .slice r658.a3 r658.n3 r658.k3, .bool r658.fu])).cell 1 rfl) (.c (((((hB680.drew : Blk w676.drew wc658.heap.size 53 (#[.slice r658.a0 r658.n0 r658.k0, .slice r658.a1 r658.n1 r658.k1, .slice r658.a2 r658.n2 r658.k2, .slice r658.a3 r658.n3 r658.k3, .bool r658.fu])).ext hEc686 (by simp) : Blk wc686 wc658.heap.size 53 (#[.slice r658.a0 r658.n0 r658.k0, .slice r658.a1 r658.n1 r658.k1, .slice r658.a2 r658.n2 r658.k2, .slice r658.a3 r658.n3 r658.k3, .bool r658.fu])).ext hEc687 (by simp) : Blk wc687 wc658.heap.size 53 (#[.slice r658.a0 r658.n0 r658.k0, .slice r658.a1 r658.n1 r658.k1, .slice r658.a2 r658.n2 r658.k2, .slice r658.a3 r658.n3 r658.k3, .bool r658.fu])).ext hEc688 (by simp) : Blk wc688 wc658.heap.size 53 (#[.slice r658.a0 r658.n0 r658.k0, .slice r658.a1 r658.n1 r658.k1, .slice r658.a2 r658.n2 r658.k2, .slice r658.a3 r658.n3 r658.k3, .bool r658.fu])).cell 2 rfl) (.c (((((hB680.drew : Blk w676.drew wc658.heap.size 53 (#[.slice r658.a0 r658.n0 r658.k0, .slice r658.a1 r658.n1 r658.k1, .slice r658.a2 r658.n2 r658.k2, .slice r658.a3 r658.n3 r658.k3, .bool r658.fu])).ext hEc686 (by simp) : Blk wc686 wc658.heap.size 53 (#[.slice r658.a0 r658.n0 r658.k0, .slice r658.a1 r658.n1 r658.k1, .slice r658.a2 r658.n2 r658.k2, .slice r658.a3 r658.n3 r658.k3, .bool r658.fu])).ext hEc687 (by simp) : Blk wc687 wc658.heap.size 53 (#[.slice r658.a0 r658.n0 r658.k0, .slice r658.a1 r658.n1 r658.k1, .slice r658.a2 r658.n2 r658.k2, .slice r658.a3 r658.n3 r658.k3, .bool r658.fu])).ext hEc688 (by simp) : Blk wc688 wc658.heap.size 53 (#[.slice r658.a0 r658.n0 r658.k0, .slice r658.a1 r658.n1 r658.k1, .slice r658.a2 r658.n2 r658.k2, .slice r658.a3 r658.n3 r658.k3, .bool r658.fu])).cell 3 rfl) (.c (((((hB680.drew : Blk w676.drew wc658.heap.size 53 (#[.slice r658.a0 r658.n0 r658.k0, .slice r658.a1 r658.n1 r658.k1, .slice r658.a2 r658.n2 r658.k2, .slice r658.a3 r658.n3 r658.k3, .bool r658.fu])).ext hEc686 (by simp) : Blk wc686 wc658.heap.size 53 (#[.slice r658.a0 r658.n0 r658.k0, .slice r658.a1 r658.n1 r658.k1, .slice r658.a2 r658.n2 r658.k2, .slice r658.a3 r658.n3 r658.k3, .bool r658.fu])).ext hEc687 (by simp) : Blk wc687 wc658.heap.size 53 (#[.slice r658.a0 r658.n0 r658.k0, .slice r658.a1 r658.n1 r658.k1, .slice r658.a2 r658.n2 r658.k2, .slice r658.a3 r658.n3 r658.k3, .bool r658.fu])).ext hEc688 (by simp) : Blk wc688 wc658.heap.size 53 (#[.slice r658.a0 r658.n0 r658.k0, .slice r658.a1 r658.n1 r658.k1, .slice r658.a2 r658.n2 r658.k2, .slice r658.a3 r658.n3 r658.k3, .bool r658.fu])).cell 4 rfl) .nil)))))
   ·refine (.c ?eq690_11 (.c ?eq690_13 (.c ?eq690_14 (.c ?eq690_20 .nil))))
    ·rintro ⟨wc686, S6687, wc687, wc688, wc689⟩ hH
     clear hH
     refine eff_gh (w676.drew) (by kernel_rfl) ?_
     refine upon_call (f := 36) (vs := [.agg #[Sl gl S.lx.length (S.lx.length + 1), Sl gn S.ns.length (S.ns.length + 1), I6 S.st, Sl gp S.ps.length (S.ps.length + 1)]]) (cap := #[]) (d := (some 268)) (by kernel_rfl) Tryd.call36 #[.agg #[Sl gl S.lx.length (S.lx.length + 1), Sl gn S.ns.length (S.ns.length + 1), I6 S.st, Sl gp S.ps.length (S.ps.length + 1)]] (by kernel_rfl) (check_c hc3 hG3 (hE684.trans0 ((Ext.refl [] _).drew)) hZ633) ?_
     rintro _ wc686 ⟨rfl, hEc686⟩
     exact ⟨_, rfl, ⟨(wc686, S6687, wc687, wc688, wc689), by kernel_rfl, by kernel_rfl, by kernel_rfl, ⟨hEc686, trivial⟩⟩⟩
    ·rintro ⟨wc686, S6687, wc687, wc688, wc689⟩ hH
     obtain ⟨hEc686, _⟩ := hH
     refine eff_gh (wc686) (by kernel_rfl) ?_
     refine upon_call (f := 13) (vs := [.agg #[Sl gl S.lx.length (S.lx.length + 1), Sl gn S.ns.length (S.ns.length + 1), I6 S.st, Sl gp S.ps.length (S.ps.length + 1)]]) (cap := #[]) (d := (some 270)) (by kernel_rfl) Tryd.call13 #[.agg #[Sl gl S.lx.length (S.lx.length + 1), Sl gn S.ns.length (S.ns.length + 1), I6 S.st, Sl gp S.ps.length (S.ps.length + 1)]] (by kernel_rfl) (Lend_u hc3 hG3 (hE684.trans0 ((((Ext.refl [] _).drew)).trans0 hEc686)) hX3) ?_
     rintro _ wc687 ⟨S6687, rfl, hL6687, hEc687⟩
     exact ⟨_, rfl, ⟨(wc686, S6687, wc687, wc688, wc689), by kernel_rfl, by kernel_rfl, by kernel_rfl, ⟨hEc686, hL6687, hEc687, trivial⟩⟩⟩
    ·rintro ⟨wc686, S6687, wc687, wc688, wc689⟩ hH
     obtain ⟨hEc686, hL6687, hEc687, _⟩ := hH
     refine eff_gh (wc687) (by kernel_rfl) ?_
     refine upon_call (f := 36) (vs := [.agg #[S6687.lv, S6687.nv, I6 S6687.st, S6687.pv]]) (cap := #[]) (d := (some 271)) (by kernel_rfl) Tryd.call36 #[.agg #[S6687.lv, S6687.nv, I6 S6687.st, S6687.pv]] (by kernel_rfl) (check_c rfl hL6687.1 (Ext.refl [] _) (hL6687.2.chk hZ633)) ?_
     rintro _ wc688 ⟨rfl, hEc688⟩
     exact ⟨_, rfl, ⟨(wc686, S6687, wc687, wc688, wc689), by kernel_rfl, by kernel_rfl, by kernel_rfl, ⟨hEc686, hL6687, hEc687, hEc688, trivial⟩⟩⟩
    ·rintro ⟨wc686, S6687, wc687, wc688, wc689⟩ hH
     obtain ⟨hEc686, hL6687, hEc687, hEc688, _⟩ := hH
     refine eff_gh (wc688) (by kernel_rfl) ?_
     refine upon_call (f := 32) (vs := [.agg #[.slice q633.a0 q633.n0 q633.k0, .slice q633.a1 q633.n1 q633.k1, .slice q633.a2 q633.n2 q633.k2, .slice q633.a3 q633.n3 q633.k3, .bool q633.fu], .agg #[.slice r658.a0 r658.n0 r658.k0, .slice r658.a1 r658.n1 r658.k1, .slice r658.a2 r658.n2 r658.k2, .slice r658.a3 r658.n3 r658.k3, .bool r658.fu]]) (cap := #[]) (d := (some 277)) (by kernel_rfl) Tryd.call32 #[.agg #[.slice q633.a0 q633.n0 q633.k0, .slice q633.a1 q633.n1 q633.k1, .slice q633.a2 q633.n2 q633.k2, .slice q633.a3 q633.n3 q633.k3, .bool q633.fu], .agg #[.slice r658.a0 r658.n0 r658.k0, .slice r658.a1 r658.n1 r658.k1, .slice r658.a2 r658.n2 r658.k2, .slice r658.a3 r658.n3 r658.k3, .bool r658.fu]] (by kernel_rfl) (sameTold_b hL5653.2 (hG682.ext0 ((((((((Ext.refl [] _).drew)).trans0 hEc686)).trans0 hEc687)).trans0 hEc688)) (hG683.ext0 ((((((((Ext.refl [] _).drew)).trans0 hEc686)).trans0 hEc687)).trans0 hEc688)) hG3.nmax) ?_
     rintro _ wc689 ⟨rfl, hEc689⟩
     exact ⟨_, rfl, ⟨(wc686, S6687, wc687, wc688, wc689), by kernel_rfl, by kernel_rfl, by kernel_rfl, ⟨hEc686, hL6687, hEc687, hEc688, hEc689, trivial⟩⟩⟩
   rintro ⟨wc686, S6687, wc687, wc688, wc689⟩ a w691 hS hw692 hH
   obtain ⟨hEc686, hL6687, hEc687, hEc688, hEc689, _⟩ := hH
   replace hw692 : w691 = wc689 := hw692.trans (by kernel_rfl)
   have hE696 : Ext [] w624 w691 := by rw [hw692]; exact ((((hE684.drew).trans0 hEc686).trans0 hEc687).trans0 hEc688).trans0 hEc689
   have hX697 : Ext [] w676 w691 := by rw [hw692]; exact (((((Ext.refl _ _).drew).trans0 hEc686).trans0 hEc687).trans0 hEc688).trans0 hEc689
   have hG698 : Tb (lentS S gl gn gp ls (cutP qs)) w624.heap.size w691 z633 q633 := hG682.ext0 hX697
   have hG699 : Tb S5653 wc653.heap.size w691 z633 r658 := hG683.ext0 hX697
   replace hS := hS.kp [(1, (Pv w.heap.size)), (6, (Pv wc55.heap.size)), (7, .slice K.ab K.an K.ac), (8, .slice K.hb K.hn K.hc), (9, .slice K.ob K.on K.oc), (10, .slice K.eb K.en K.ec), (11, I6 turn), (19, (Pv wl87.heap.size)), (21, (Pv x31_13)), (20, .slice qb qn qc), (22, (Pv wc471.heap.size)), (23, .bool true), (211, .bool false), (25, (Pv wc561.heap.size)), (225, .bool false), (27, (Pv wlt.heap.size)), (233, .bool true), (28, (Pv wc633.heap.size)), (29, .bool (decide (z633.1 = 0))), (30, .bool true), (31, (Pv wc658.heap.size)), (32, .bool (decide (z633.1 = 0))), (33, .bool true), (2, .bool true)]
   refine hK685 _ _ <| wpIn_ret ?_
   refine ret1 hS Tryd.results10 rfl ?_
   exact ⟨rfl, (hE59.trans0 (hE79.trans0 (hE591.trans0 (hE628.trans0 hE696))))⟩
end Go.Proofs.YtkkpghlcmcaoiaaDoor
