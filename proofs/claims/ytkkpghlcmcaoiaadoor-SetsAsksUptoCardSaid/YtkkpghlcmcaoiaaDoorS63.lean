import Derived.Test.YtkkpghlcmcaoiaaDoorS62
namespace Go.Proofs.YtkkpghlcmcaoiaaDoor
open Go.Vc Go.Gm
set_option maxHeartbeats 2000000 in
theorem SetsAsks_any {w0 w : World} {S : Sp} (hG : SpOk w0 S) (hb : Ext [] w0 w) (hT : Tab w0) (hX : ∃ xs, PatOk w0 S xs) :
  Calls Tryd.prog 3 #[.agg S.ca] w fun e w' => e = .returned (.bool true) ∧ Ext [] w w' := by
 have hlmax := hG.lmax
 have hnmax := hG.nmax
 have hpmax := hG.pmax
 refine cbd 104 [(0, .agg S.ca)] Tryd.func3 rfl fun a hS => ?_
 have hE0 : Ext [] w w := Ext.refl _ _
 refine sq fun K1 hK1 => rgn 2 <| ebx 1 S.ca 26 (some 1) hS fun a w2 hw3 hS => ?_
 have hB4 := Blk.nw hw3
 have hs5 := hE0.size
 have hE6 := hE0.al hw3
 refine sd ww [.p] [] [(2, .bool false)] [] 2 0 hS .nil fun a hS => sge hK1 <| sq fun K7 hK7 => rgn 7 <| sd ww [.lds [S.lv, S.nv, I6 S.st, S.pv]] [_, _, _, _] [(18, .agg S.ca)] [] 1 6 hS (hB4.k 0 (hB4.k 1 (hB4.k 2 (hB4.k 3 .nil)))) fun a hS => ecl 5 (some 19) hS Tryd.call11 #[.agg S.ca] (Check_n hG (hb.trans0 hE6)) ?_
 rintro _ wc8 ⟨z8, rfl, hZ8, hEc8⟩
 refine ⟨_, rfl, fun a hS => ?_⟩
 have hB9 := hB4.ext hEc8 (by simp)
 have hE10 := hE6.trans0 hEc8
 refine sd ww [.p, .p, .p, .p, .p] [] [(4, I6 z8.1)] [] 7 0 hS .nil fun a hS => sge hK7 <| sq fun K11 hK11 => sq fun K12 hK12 => ?_
 rcases (show (z8.1 ≠ 0) ∨ (z8.1 = 0) from (Decidable.em _).symm) with hz0 | hz0
 ·
  refine rgn 6 <| sd ww [.p, .as (.bool true), .p, .no, .no, .p] [Value.bool (((z8.1 : Int) != 0)) = .bool true] [(27, .bool true)] [] 6 0 hS (.c (as_ne_t (by omega)) .nil) fun a hS => sge hK12 ?_
  refine cond_t hS rfl ?_
  refine sq fun K13 hK13 => rgn 2 <| ecl 1 (some 28) hS Tryd.call12 #[] (Head_any (hT.ext0 (hb.trans0 hE10))) ?_
  rintro _ wc14 ⟨rfl, hEc14⟩
  refine ⟨_, rfl, fun a hS => ?_⟩
  have hE16 := hE10.trans0 hEc14
  refine sd ww [.p] [] [(2, .bool true)] [] 2 0 hS .nil fun a hS => sge hK13 <| wpIn_ret <| then_ret ?_
  refine ret1 hS Tryd.results3 rfl ?_
  exact ⟨rfl, hE16⟩
 ·
  have hok := hZ8.zero.2.1 hz0
  have hlx := hok.lx
  refine rgn 6 <| sd ww [.p, .as (.bool false), .p] [Value.bool (((z8.1 : Int) != 0)) = .bool false] [(24, .bool false)] [] 3 3 hS (.c (as_ne_f (by omega)) .nil) fun a hS => ecl 2 (some 25) hS Tryd.call12 #[] (Head_any (hT.ext0 (hb.trans0 hE10))) ?_
  rintro _ wc17 ⟨rfl, hEc17⟩
  refine ⟨_, rfl, fun a hS => ?_⟩
  have hB18 := hB9.ext hEc17 (by simp)
  have hE19 := hE10.trans0 hEc17
  refine sd ww [.p, .p] [] [(27, .bool false)] [] 6 0 hS .nil fun a hS => sge hK12 ?_
  refine cond_f hS rfl ?_
  refine wpIn_skip <| hK11 _ _ <| sq fun K20 hK20 => rgn 4 <| sd ww [.lds [S.lv, S.nv, I6 S.st, S.pv]] [_, _, _, _] [(29, .agg S.ca)] [] 1 3 hS (hB18.k 0 (hB18.k 1 (hB18.k 2 (hB18.k 3 .nil)))) fun a hS => ecl 2 (some 30) hS Tryd.call13 #[.agg S.ca] (Lend_any2 hG (hb.trans0 hE19) (hX.imp fun _ h => h)) ?_
  rintro _ wlt ⟨S2, rfl, hG2, hSm, hKp, hElt⟩
  refine ⟨_, rfl, fun a hS => ?_⟩
  have hB22 := hB18.ext hElt (by simp)
  have hE23 := hE19.trans0 hElt
  have hbr24 : Ext [] w0 wlt := (hb.trans0 hE23)
  have hEr24 : Ext [] wlt wlt := Ext.refl _ _
  have hok2 := (hSm.chk hZ8).zero.2.1 hz0
  have hns := hSm.ns
  refine ebx 1 #[.slice none 0 0, .slice none 0 0, I6 0, .slice none 0 0] 26 (some 5) hS fun a w25 hw26 hS => ?_
  have hn27 := Nat.ne_of_lt hB22.lt
  have hB28 := Blk.at' hw26 (hB22.alloc _)
  have hB29 := Blk.nw hw26
  have hs30 := hEr24.size
  have hE31 := hEr24.al hw26
  refine est 0 wlt.heap.size 0 [S2.lv, S2.nv, I6 S2.st, S2.pv] hS hB29 fun a w32 hw33 hS => ?_
  have hB34 := Blk.at' hw33 (hB28.updNe (Ne.symm hn27) _ _)
  have hB35 : Blk w32 wlt.heap.size 26 (#[S2.lv, S2.nv, I6 S2.st, S2.pv]) := hB29.up hw33
  have hE36 := hE31.ui hw33 hs30
  refine sge hK20 <| sq fun K37 hK37 => rgn 8 <| sg ww [.lds [S2.lv, S2.nv, I6 S2.st, S2.pv]] [_, _, _, _] [(0, .agg S.ca), (1, (Pv w.heap.size)), (2, .bool false), (4, I6 z8.1), (27, .bool false), (5, (Pv wlt.heap.size)), (32, .agg #[S2.lv, S2.nv, I6 S2.st, S2.pv])] 1 7 hS (hB35.k 0 (hB35.k 1 (hB35.k 2 (hB35.k 3 .nil)))) fun a hS => ecl 6 (some 33) hS Tryd.call14 #[.agg #[S2.lv, S2.nv, I6 S2.st, S2.pv]] (Nullable_l (hG2.ext0 hE36) (Ext.refl _ _) hok2) ?_
  rintro _ wc38 ⟨ga38, es38, rfl, hN38, hNd38, hEc38⟩
  refine ⟨_, rfl, fun a hS => ?_⟩
  have hB39 := hB34.ext hEc38 (by simp)
  have hB40 := hB35.ext hEc38 (by simp)
  have hE41 := hE36.trans0 hEc38
  have hbr42 : Ext [] w0 wc38 := (hbr24.trans0 hE41)
  have hEr42 : Ext [] wc38 wc38 := Ext.refl _ _
  refine sd ww [.p, .p, .p] [] [(34, Sl ga38 S2.ns.length S2.ns.length), (35, .agg #[I6 0, I6 0, .string ⟨#[]⟩])] [] 5 3 hS .nil fun a hS => ebx 2 #[I6 0, I6 0, .string ⟨#[]⟩] 34 (some 7) hS fun a w43 hw44 hS => ?_
  have hn45 := Nat.ne_of_lt hB39.lt
  have hn46 := Nat.ne_of_lt hB40.lt
  have hB47 := Blk.at' hw44 (hB39.alloc _)
  have hB48 := Blk.at' hw44 (hB40.alloc _)
  have hB49 := Blk.nw hw44
  have hs50 := hEr42.size
  have hE51 := hEr42.al hw44
  refine sd ww [.p] [] [(6, Sl ga38 S2.ns.length S2.ns.length)] [] 7 1 hS .nil fun a hS => est 0 wc38.heap.size 0 [I6 0, I6 0, .string ⟨#[]⟩] hS hB49 fun a w52 hw53 hS => ?_
  have hB54 := Blk.at' hw53 (hB47.updNe (Ne.symm hn45) _ _)
  have hB55 := Blk.at' hw53 (hB48.updNe (Ne.symm hn46) _ _)
  have hB56 : Blk w52 wc38.heap.size 34 (#[I6 0, I6 0, .string ⟨#[]⟩]) := hB49.up hw53
  have hE57 := hE51.ui hw53 hs50
  refine sge hK37 <| sq fun K58 hK58 => rgn 8 <| sd ww [.lds [S2.lv, S2.nv, I6 S2.st, S2.pv]] [_, _, _, _] [(37, .agg #[S2.lv, S2.nv, I6 S2.st, S2.pv])] [] 1 7 hS (hB55.k 0 (hB55.k 1 (hB55.k 2 (hB55.k 3 .nil)))) fun a hS => ecl 6 (some 38) hS Tryd.call15 #[.agg #[S2.lv, S2.nv, I6 S2.st, S2.pv]] (First_l (hG2.ext0 (hE41.trans0 hE57)) (Ext.refl _ _) hok2 (hT.ext0 (hbr42.trans0 hE57))) ?_
  rintro _ wc59 ⟨bF59, cF59, lF59, rfl, hF59, hFi59, hEc59⟩
  refine ⟨_, rfl, fun a hS => ?_⟩
  have hB60 := hB54.ext hEc59 (by simp)
  have hB61 := hB55.ext hEc59 (by simp)
  have hB62 := hB56.ext hEc59 (by simp)
  have hE63 := hE57.trans0 hEc59
  have hbr64 : Ext [] w0 wc59 := (hbr42.trans0 hE63)
  have hEr64 : Ext [] wc59 wc59 := Ext.refl _ _
  refine sd ww [.p, .p, .p] [] [(39, .slice bF59 S2.ns.length cF59), (40, .agg #[I6 0, I6 0, .string ⟨#[]⟩])] [] 5 3 hS .nil fun a hS => ebx 2 #[I6 0, I6 0, .string ⟨#[]⟩] 34 (some 9) hS fun a w65 hw66 hS => ?_
  have hn67 := Nat.ne_of_lt hB60.lt
  have hn68 := Nat.ne_of_lt hB61.lt
  have hn69 := Nat.ne_of_lt hB62.lt
  have hB70 := Blk.at' hw66 (hB60.alloc _)
  have hB71 := Blk.at' hw66 (hB61.alloc _)
  have hB72 := Blk.at' hw66 (hB62.alloc _)
  have hB73 := Blk.nw hw66
  have hs74 := hEr64.size
  have hE75 := hEr64.al hw66
  refine sd ww [.p] [] [(8, .slice bF59 S2.ns.length cF59)] [] 7 1 hS .nil fun a hS => est 0 wc59.heap.size 0 [I6 0, I6 0, .string ⟨#[]⟩] hS hB73 fun a w76 hw77 hS => ?_
  have hB78 := Blk.at' hw77 (hB70.updNe (Ne.symm hn67) _ _)
  have hB79 := Blk.at' hw77 (hB71.updNe (Ne.symm hn68) _ _)
  have hB80 := Blk.at' hw77 (hB72.updNe (Ne.symm hn69) _ _)
  have hB81 : Blk w76 wc59.heap.size 34 (#[I6 0, I6 0, .string ⟨#[]⟩]) := hB73.up hw77
  have hE82 := hE75.ui hw77 hs74
  refine sge hK58 <| sq fun K83 hK83 => rgn 8 <| sd ww [.lds [S2.lv, S2.nv, I6 S2.st, S2.pv]] [_, _, _, _] [(42, .agg #[S2.lv, S2.nv, I6 S2.st, S2.pv])] [] 1 7 hS (hB79.k 0 (hB79.k 1 (hB79.k 2 (hB79.k 3 .nil)))) fun a hS => ecl 6 (some 43) hS Tryd.call16 #[.agg #[S2.lv, S2.nv, I6 S2.st, S2.pv]] (Follow_l (hG2.ext0 (hE41.trans0 (hE63.trans0 hE82))) (Ext.refl _ _) hok2 (hT.ext0 (hbr64.trans0 hE82))) ?_
  rintro _ wc84 ⟨bW84, cW84, lW84, rfl, hW84, hWi84, hEc84⟩
  refine ⟨_, rfl, fun a hS => ?_⟩
  have hB85 := hB78.ext hEc84 (by simp)
  have hB86 := hB79.ext hEc84 (by simp)
  have hB87 := hB80.ext hEc84 (by simp)
  have hB88 := hB81.ext hEc84 (by simp)
  have hE89 := hE82.trans0 hEc84
  have hbr90 : Ext [] w0 wc84 := (hbr64.trans0 hE89)
  have hEr90 : Ext [] wc84 wc84 := Ext.refl _ _
  refine sg ww [.p, .p, .p] [] [(0, .agg S.ca), (1, (Pv w.heap.size)), (2, .bool false), (4, I6 z8.1), (27, .bool false), (5, (Pv wlt.heap.size)), (7, (Pv wc38.heap.size)), (6, Sl ga38 S2.ns.length S2.ns.length), (9, (Pv wc59.heap.size)), (8, .slice bF59 S2.ns.length cF59), (44, .slice bW84 S2.ns.length cW84), (45, .agg #[I6 0, I6 0, .string ⟨#[]⟩])] 5 3 hS .nil fun a hS => ebx 2 #[I6 0, I6 0, .string ⟨#[]⟩] 34 (some 11) hS fun a w91 hw92 hS => ?_
  have hn93 := Nat.ne_of_lt hB85.lt
  have hn94 := Nat.ne_of_lt hB86.lt
  have hn95 := Nat.ne_of_lt hB87.lt
  have hn96 := Nat.ne_of_lt hB88.lt
  have hB97 := Blk.at' hw92 (hB85.alloc _)
  have hB98 := Blk.at' hw92 (hB86.alloc _)
  have hB99 := Blk.at' hw92 (hB87.alloc _)
  have hB100 := Blk.at' hw92 (hB88.alloc _)
  have hB101 := Blk.nw hw92
  have hs102 := hEr90.size
  have hE103 := hEr90.al hw92
  refine sd ww [.p] [] [(10, .slice bW84 S2.ns.length cW84)] [] 7 1 hS .nil fun a hS => est 0 wc84.heap.size 0 [I6 0, I6 0, .string ⟨#[]⟩] hS hB101 fun a w104 hw105 hS => ?_
  have hB106 := Blk.at' hw105 (hB97.updNe (Ne.symm hn93) _ _)
  have hB107 := Blk.at' hw105 (hB98.updNe (Ne.symm hn94) _ _)
  have hB108 := Blk.at' hw105 (hB99.updNe (Ne.symm hn95) _ _)
  have hB109 := Blk.at' hw105 (hB100.updNe (Ne.symm hn96) _ _)
  have hB110 : Blk w104 wc84.heap.size 34 (#[I6 0, I6 0, .string ⟨#[]⟩]) := hB101.up hw105
  have hE111 := hE103.ui hw105 hs102
  refine sge hK83 <| sq fun K112 hK112 => rgn 8 <| sd ww [.lds [S2.lv, S2.nv, I6 S2.st, S2.pv]] [_, _, _, _] [(47, .agg #[S2.lv, S2.nv, I6 S2.st, S2.pv])] [] 1 7 hS (hB107.k 0 (hB107.k 1 (hB107.k 2 (hB107.k 3 .nil)))) fun a hS => ecl 6 (some 48) hS Tryd.call17 #[.agg #[S2.lv, S2.nv, I6 S2.st, S2.pv]] (Yields_l (hG2.ext0 (hE41.trans0 (hE63.trans0 (hE89.trans0 hE111)))) (Ext.refl _ _) hok2) ?_
  rintro _ wc113 ⟨bY113, mY113, cY113, lY113, kY113, aY113, rfl, hY113, hYi113, hEc113⟩
  refine ⟨_, rfl, fun a hS => ?_⟩
  have hB114 := hB106.ext hEc113 (by simp)
  have hB115 := hB107.ext hEc113 (by simp)
  have hB116 := hB108.ext hEc113 (by simp)
  have hB117 := hB109.ext hEc113 (by simp)
  have hB118 := hB110.ext hEc113 (by simp)
  have hE119 := hE111.trans0 hEc113
  have hbr120 : Ext [] w0 wc113 := (hbr90.trans0 hE119)
  have hEr120 : Ext [] wc113 wc113 := Ext.refl _ _
  refine sd ww [.p, .p, .p] [] [(49, .slice bY113 mY113 cY113), (50, .agg #[I6 kY113, I6 aY113, .string ⟨#[]⟩])] [] 5 3 hS .nil fun a hS => ebx 2 #[I6 0, I6 0, .string ⟨#[]⟩] 34 (some 13) hS fun a w121 hw122 hS => ?_
  have hn123 := Nat.ne_of_lt hB114.lt
  have hn124 := Nat.ne_of_lt hB115.lt
  have hn125 := Nat.ne_of_lt hB116.lt
  have hn126 := Nat.ne_of_lt hB117.lt
  have hn127 := Nat.ne_of_lt hB118.lt
  have hB128 := Blk.at' hw122 (hB114.alloc _)
  have hB129 := Blk.at' hw122 (hB115.alloc _)
  have hB130 := Blk.at' hw122 (hB116.alloc _)
  have hB131 := Blk.at' hw122 (hB117.alloc _)
  have hB132 := Blk.at' hw122 (hB118.alloc _)
  have hB133 := Blk.nw hw122
  have hs134 := hEr120.size
  have hE135 := hEr120.al hw122
  refine sd ww [.p] [] [(12, .slice bY113 mY113 cY113)] [] 7 1 hS .nil fun a hS => est 0 wc113.heap.size 0 [I6 kY113, I6 aY113, .string ⟨#[]⟩] hS hB133 fun a w136 hw137 hS => ?_
  have hB138 := Blk.at' hw137 (hB128.updNe (Ne.symm hn123) _ _)
  have hB139 := Blk.at' hw137 (hB129.updNe (Ne.symm hn124) _ _)
  have hB140 := Blk.at' hw137 (hB130.updNe (Ne.symm hn125) _ _)
  have hB141 := Blk.at' hw137 (hB131.updNe (Ne.symm hn126) _ _)
  have hB142 := Blk.at' hw137 (hB132.updNe (Ne.symm hn127) _ _)
  have hB143 : Blk w136 wc113.heap.size 34 (#[I6 kY113, I6 aY113, .string ⟨#[]⟩]) := hB133.up hw137
  have hE144 := hE135.ui hw137 hs134
  refine sge hK112 <| sq fun K145 hK145 => rgn 9 <| sd ww [.lds [S.lv, S.nv, I6 S.st, S.pv]] [_, _, _, _] [(52, .agg S.ca)] [] 1 8 hS (hB138.k 0 (hB138.k 1 (hB138.k 2 (hB138.k 3 .nil)))) fun a hS => ecl 7 (some 53) hS Tryd.call18 #[.agg S.ca] (Yields_lr hG (hbr120.trans0 hE144) hok) ?_
  rintro _ wc146 ⟨xR146, vR146, mR146, rfl, hR146, hRz146, hEc146⟩
  refine ⟨_, rfl, fun a hS => ?_⟩
  have hB147 := hB138.ext hEc146 (by simp)
  have hB148 := hB139.ext hEc146 (by simp)
  have hB149 := hB140.ext hEc146 (by simp)
  have hB150 := hB141.ext hEc146 (by simp)
  have hB151 := hB142.ext hEc146 (by simp)
  have hB152 := hB143.ext hEc146 (by simp)
  have hE153 := hE144.trans0 hEc146
  have hbr154 : Ext [] w0 wc146 := (hbr120.trans0 hE153)
  have hEr154 : Ext [] wc146 wc146 := Ext.refl _ _
  obtain ⟨hka, hlY⟩ := YoR.ref hSm hYi113 hRz146
  refine sd ww [.p, .p, .p, .p, .p, .p, .p] [] [(14, vR146), (15, I6 ((fH xR146.2 0).2)), (16, I6 ((fH xR146.2 0).1))] [] 9 0 hS .nil fun a hS => sge hK145 <| sq fun K155 hK155 => sq fun K156 hK156 => ?_
  refine gh3 (G := World × World) [.q (.lds [I6 0, I6 0, .string ⟨#[]⟩]), .q .p, .q (.run (.bool false)), .q .p, .q (.lds [I6 0, I6 0, .string ⟨#[]⟩]), .q .p, .q (.run (.bool false)), .q .p, .q .p, .q (.lds [I6 0, I6 0, .string ⟨#[]⟩]), .q .p, .q (.run (.bool false)), .q .p, .q .p, .q (.lds [I6 kY113, I6 aY113, .string ⟨#[]⟩]), .q .p, .q .p, .e, .q (.run (.bool false)), .q .p, .q .p, .q (.lds [S2.lv, S2.nv, I6 S2.st, S2.pv]), .q (.lds [S.lv, S.nv, I6 S.st, S.pv]), .e, .q .p, .q .p] [0, 0, 0, 0, 0, 0, 0, 0, 0, 0, 0, 0, 0, 0, 0, 0, 0, 0, 1, 1, 1, 1, 1, 1, 2, 2] [0, 0, 0, 0, 0, 0, 0, 0, 0, 0, 0, 0, 0, 0, 1, 0, 0, 0, 1, 1, 1, 1, 1, 1, 2, 2] [0, 0, 3, 7, 15, 15, 63, 127, 255, 511, 511, 2047, 4095, 8191, 16383, 16383, 16383, 114687, 262143, 524287, 1048575, 2097151, 2097151, 8388607, 16777215, 33554431] [17, 23] [(17, 0), (23, 1)] 2 (fun ⟨wc157, wc158⟩ => ([(0, .agg S.ca), (1, (Pv w.heap.size)), (2, .bool false), (4, I6 z8.1), (27, .bool false), (5, (Pv wlt.heap.size)), (7, (Pv wc38.heap.size)), (6, Sl ga38 S2.ns.length S2.ns.length), (9, (Pv wc59.heap.size)), (8, .slice bF59 S2.ns.length cF59), (11, (Pv wc84.heap.size)), (10, .slice bW84 S2.ns.length cW84), (13, (Pv wc113.heap.size)), (12, .slice bY113 mY113 cY113), (14, vR146), (15, I6 ((fH xR146.2 0).2)), (16, I6 ((fH xR146.2 0).1)), (57, .agg #[I6 0, I6 0, .string ⟨#[]⟩]), (58, .agg #[I6 0, I6 0, .string ⟨#[]⟩]), (59, .bool false), (60, .bool false), (61, .agg #[I6 0, I6 0, .string ⟨#[]⟩]), (62, .agg #[I6 0, I6 0, .string ⟨#[]⟩]), (63, .bool false), (64, .bool false), (65, .bool false), (66, .agg #[I6 0, I6 0, .string ⟨#[]⟩]), (67, .agg #[I6 0, I6 0, .string ⟨#[]⟩]), (68, .bool false), (69, .bool false), (70, .bool false), (71, .agg #[I6 kY113, I6 aY113, .string ⟨#[]⟩]), (72, I6 ((fH xR146.2 0).2)), (73, I6 ((fH xR146.2 0).1)), (74, .agg #[I6 kY113, I6 aY113, .string ⟨#[]⟩]), (75, .bool false), (76, .bool false), (77, .bool false), (78, .agg #[S2.lv, S2.nv, I6 S2.st, S2.pv]), (79, .agg S.ca), (80, .bool true), (81, .bool false), (82, .bool false)] : Fm)) (fun ⟨wc157, wc158⟩ => [wc146.drew, wc157, wc158]) (wc146.drew) (fun e ⟨wc157, wc158⟩ => hAt [True, (Ext [] wc146.drew wc157) ∧ True, (Ext [] wc146.drew wc157) ∧ (Ext [] wc157 wc158) ∧ True] e) (fun ⟨wc157, wc158⟩ w' => [(0, [w'.cell? ⟨wc38.heap.size, 0, none⟩ = some (I6 0), w'.cell? ⟨wc38.heap.size, 1, none⟩ = some (I6 0), w'.cell? ⟨wc38.heap.size, 2, none⟩ = some (.string ⟨#[]⟩)]), (2, [Rv (do eqGuard .neq 34 (.tmp 57) (.tmp 58) (.agg #[I6 0, I6 0, .string ⟨#[]⟩]) (.agg #[I6 0, I6 0, .string ⟨#[]⟩]); binOp .neq 34 (.agg #[I6 0, I6 0, .string ⟨#[]⟩]) (.agg #[I6 0, I6 0, .string ⟨#[]⟩])) (.bool false) w']), (4, [w'.cell? ⟨wc59.heap.size, 0, none⟩ = some (I6 0), w'.cell? ⟨wc59.heap.size, 1, none⟩ = some (I6 0), w'.cell? ⟨wc59.heap.size, 2, none⟩ = some (.string ⟨#[]⟩)]), (6, [Rv (do eqGuard .neq 34 (.tmp 61) (.tmp 62) (.agg #[I6 0, I6 0, .string ⟨#[]⟩]) (.agg #[I6 0, I6 0, .string ⟨#[]⟩]); binOp .neq 34 (.agg #[I6 0, I6 0, .string ⟨#[]⟩]) (.agg #[I6 0, I6 0, .string ⟨#[]⟩])) (.bool false) w']), (9, [w'.cell? ⟨wc84.heap.size, 0, none⟩ = some (I6 0), w'.cell? ⟨wc84.heap.size, 1, none⟩ = some (I6 0), w'.cell? ⟨wc84.heap.size, 2, none⟩ = some (.string ⟨#[]⟩)]), (11, [Rv (do eqGuard .neq 34 (.tmp 66) (.tmp 67) (.agg #[I6 0, I6 0, .string ⟨#[]⟩]) (.agg #[I6 0, I6 0, .string ⟨#[]⟩]); binOp .neq 34 (.agg #[I6 0, I6 0, .string ⟨#[]⟩]) (.agg #[I6 0, I6 0, .string ⟨#[]⟩])) (.bool false) w']), (14, [w'.cell? ⟨wc113.heap.size, 0, none⟩ = some (I6 kY113), w'.cell? ⟨wc113.heap.size, 1, none⟩ = some (I6 aY113), w'.cell? ⟨wc113.heap.size, 2, none⟩ = some (.string ⟨#[]⟩)]), (18, [Rv (do eqGuard .neq 34 (.tmp 71) (.tmp 74) (.agg #[I6 kY113, I6 aY113, .string ⟨#[]⟩]) (.agg #[I6 kY113, I6 aY113, .string ⟨#[]⟩]); binOp .neq 34 (.agg #[I6 kY113, I6 aY113, .string ⟨#[]⟩]) (.agg #[I6 kY113, I6 aY113, .string ⟨#[]⟩])) (.bool false) w']), (21, [w'.cell? ⟨wlt.heap.size, 0, none⟩ = some (S2.lv), w'.cell? ⟨wlt.heap.size, 1, none⟩ = some (S2.nv), w'.cell? ⟨wlt.heap.size, 2, none⟩ = some (I6 S2.st), w'.cell? ⟨wlt.heap.size, 3, none⟩ = some (S2.pv)]), (22, [w'.cell? ⟨w.heap.size, 0, none⟩ = some (S.lv), w'.cell? ⟨w.heap.size, 1, none⟩ = some (S.nv), w'.cell? ⟨w.heap.size, 2, none⟩ = some (I6 S.st), w'.cell? ⟨w.heap.size, 3, none⟩ = some (S.pv)])]) (wc146.drew, w) [0, 1, 2, 4, 27, 5, 7, 6, 9, 8, 11, 10, 13, 12, 14, 15, 16] [] hS (fun ⟨wc157, wc158⟩ _ => by kernel_rfl) trivial ?_ ?_ ?_
  ·rintro e ⟨wc157, wc158⟩ w' hw hH
   refine (.c ?_ (.c ?_ (.c ?_ (.c ?_ (.c ?_ (.c ?_ (.c ?_ (.c ?_ (.c ?_ (.c ?_ .nil))))))))))
   ·intro h1 h2
    obtain rfl := Nat.le_antisymm h2 h1
    have hwe : wc146.drew = w' := hwz hw
    subst hwe
    clear hH
    exact (.c ((hB149.drew : Blk wc146.drew wc38.heap.size 34 (#[I6 0, I6 0, .string ⟨#[]⟩])).cell 0 rfl) (.c ((hB149.drew : Blk wc146.drew wc38.heap.size 34 (#[I6 0, I6 0, .string ⟨#[]⟩])).cell 1 rfl) (.c ((hB149.drew : Blk wc146.drew wc38.heap.size 34 (#[I6 0, I6 0, .string ⟨#[]⟩])).cell 2 rfl) .nil)))
   ·intro h1 h2
    obtain rfl := Nat.le_antisymm h2 h1
    have hwe : wc146.drew = w' := hwz hw
    subst hwe
    clear hH
    exact (.c ((bin_agg_same (by kernel_rfl)).2) .nil)
   ·intro h1 h2
    obtain rfl := Nat.le_antisymm h2 h1
    have hwe : wc146.drew = w' := hwz hw
    subst hwe
    clear hH
    exact (.c ((hB150.drew : Blk wc146.drew wc59.heap.size 34 (#[I6 0, I6 0, .string ⟨#[]⟩])).cell 0 rfl) (.c ((hB150.drew : Blk wc146.drew wc59.heap.size 34 (#[I6 0, I6 0, .string ⟨#[]⟩])).cell 1 rfl) (.c ((hB150.drew : Blk wc146.drew wc59.heap.size 34 (#[I6 0, I6 0, .string ⟨#[]⟩])).cell 2 rfl) .nil)))
   ·intro h1 h2
    obtain rfl := Nat.le_antisymm h2 h1
    have hwe : wc146.drew = w' := hwz hw
    subst hwe
    clear hH
    exact (.c ((bin_agg_same (by kernel_rfl)).2) .nil)
   ·intro h1 h2
    obtain rfl := Nat.le_antisymm h2 h1
    have hwe : wc146.drew = w' := hwz hw
    subst hwe
    clear hH
    exact (.c ((hB151.drew : Blk wc146.drew wc84.heap.size 34 (#[I6 0, I6 0, .string ⟨#[]⟩])).cell 0 rfl) (.c ((hB151.drew : Blk wc146.drew wc84.heap.size 34 (#[I6 0, I6 0, .string ⟨#[]⟩])).cell 1 rfl) (.c ((hB151.drew : Blk wc146.drew wc84.heap.size 34 (#[I6 0, I6 0, .string ⟨#[]⟩])).cell 2 rfl) .nil)))
   ·intro h1 h2
    obtain rfl := Nat.le_antisymm h2 h1
    have hwe : wc146.drew = w' := hwz hw
    subst hwe
    clear hH
    exact (.c ((bin_agg_same (by kernel_rfl)).2) .nil)
   ·intro h1 h2
    replace h1 : 0 ≤ e := h1
    replace h2 : e ≤ 1 := h2
    have he : e = 0 ∨ e = 1 := by omega
    rcases he with rfl | rfl
    ·have hwe : wc146.drew = w' := hwz hw
     subst hwe
     clear hH
     exact (.c ((hB152.drew : Blk wc146.drew wc113.heap.size 34 (#[I6 kY113, I6 aY113, .string ⟨#[]⟩])).cell 0 rfl) (.c ((hB152.drew : Blk wc146.drew wc113.heap.size 34 (#[I6 kY113, I6 aY113, .string ⟨#[]⟩])).cell 1 rfl) (.c ((hB152.drew : Blk wc146.drew wc113.heap.size 34 (#[I6 kY113, I6 aY113, .string ⟨#[]⟩])).cell 2 rfl) .nil)))
    ·have hwe : wc157 = w' := hwz hw
     subst hwe
     obtain ⟨hEc157, _⟩ := hH
     exact (.c (((hB152.drew : Blk wc146.drew wc113.heap.size 34 (#[I6 kY113, I6 aY113, .string ⟨#[]⟩])).ext hEc157 (by simp) : Blk wc157 wc113.heap.size 34 (#[I6 kY113, I6 aY113, .string ⟨#[]⟩])).cell 0 rfl) (.c (((hB152.drew : Blk wc146.drew wc113.heap.size 34 (#[I6 kY113, I6 aY113, .string ⟨#[]⟩])).ext hEc157 (by simp) : Blk wc157 wc113.heap.size 34 (#[I6 kY113, I6 aY113, .string ⟨#[]⟩])).cell 1 rfl) (.c (((hB152.drew : Blk wc146.drew wc113.heap.size 34 (#[I6 kY113, I6 aY113, .string ⟨#[]⟩])).ext hEc157 (by simp) : Blk wc157 wc113.heap.size 34 (#[I6 kY113, I6 aY113, .string ⟨#[]⟩])).cell 2 rfl) .nil)))
   ·intro h1 h2
    obtain rfl := Nat.le_antisymm h2 h1
    have hwe : wc157 = w' := hwz hw
    subst hwe
    obtain ⟨hEc157, _⟩ := hH
    exact (.c ((bin_agg_same (by kernel_rfl)).2) .nil)
   ·intro h1 h2
    obtain rfl := Nat.le_antisymm h2 h1
    have hwe : wc157 = w' := hwz hw
    subst hwe
    obtain ⟨hEc157, _⟩ := hH
    exact (.c (((hB148.drew : Blk wc146.drew wlt.heap.size 26 (#[S2.lv, S2.nv, I6 S2.st, S2.pv])).ext hEc157 (by simp) : Blk wc157 wlt.heap.size 26 (#[S2.lv, S2.nv, I6 S2.st, S2.pv])).cell 0 rfl) (.c (((hB148.drew : Blk wc146.drew wlt.heap.size 26 (#[S2.lv, S2.nv, I6 S2.st, S2.pv])).ext hEc157 (by simp) : Blk wc157 wlt.heap.size 26 (#[S2.lv, S2.nv, I6 S2.st, S2.pv])).cell 1 rfl) (.c (((hB148.drew : Blk wc146.drew wlt.heap.size 26 (#[S2.lv, S2.nv, I6 S2.st, S2.pv])).ext hEc157 (by simp) : Blk wc157 wlt.heap.size 26 (#[S2.lv, S2.nv, I6 S2.st, S2.pv])).cell 2 rfl) (.c (((hB148.drew : Blk wc146.drew wlt.heap.size 26 (#[S2.lv, S2.nv, I6 S2.st, S2.pv])).ext hEc157 (by simp) : Blk wc157 wlt.heap.size 26 (#[S2.lv, S2.nv, I6 S2.st, S2.pv])).cell 3 rfl) .nil))))
   ·intro h1 h2
    obtain rfl := Nat.le_antisymm h2 h1
    have hwe : wc157 = w' := hwz hw
    subst hwe
    obtain ⟨hEc157, _⟩ := hH
    exact (.c (((hB147.drew : Blk wc146.drew w.heap.size 26 (S.ca)).ext hEc157 (by simp) : Blk wc157 w.heap.size 26 (S.ca)).cell 0 rfl) (.c (((hB147.drew : Blk wc146.drew w.heap.size 26 (S.ca)).ext hEc157 (by simp) : Blk wc157 w.heap.size 26 (S.ca)).cell 1 rfl) (.c (((hB147.drew : Blk wc146.drew w.heap.size 26 (S.ca)).ext hEc157 (by simp) : Blk wc157 w.heap.size 26 (S.ca)).cell 2 rfl) (.c (((hB147.drew : Blk wc146.drew w.heap.size 26 (S.ca)).ext hEc157 (by simp) : Blk wc157 w.heap.size 26 (S.ca)).cell 3 rfl) .nil))))
  ·refine (.c ?eq159_17 (.c ?eq159_23 .nil))
   ·rintro ⟨wc157, wc158⟩ hH
    clear hH
    refine eff_gh (wc146.drew) (by kernel_rfl) ?_
    refine upon_call (f := 19) (vs := [I6 ((fH xR146.2 0).2), I6 ((fH xR146.2 0).1)]) (cap := #[]) (d := (some 74)) (by kernel_rfl) Tryd.call19 #[I6 ((fH xR146.2 0).2), I6 ((fH xR146.2 0).1)] (by kernel_rfl) (fault_k hka fH_zero) ?_
    rintro _ wc157 ⟨rfl, hEc157⟩
    exact ⟨_, rfl, ⟨(wc157, wc158), by kernel_rfl, by kernel_rfl, by kernel_rfl, ⟨hEc157, trivial⟩⟩⟩
   ·rintro ⟨wc157, wc158⟩ hH
    obtain ⟨hEc157, _⟩ := hH
    refine eff_gh (wc157) (by kernel_rfl) ?_
    refine upon_call (f := 20) (vs := [.agg #[S2.lv, S2.nv, I6 S2.st, S2.pv], .agg S.ca]) (cap := #[]) (d := (some 80)) (by kernel_rfl) Tryd.call20 #[.agg #[S2.lv, S2.nv, I6 S2.st, S2.pv], .agg S.ca] (by kernel_rfl) (hKp _ (hE41.trans0 (hE63.trans0 (hE89.trans0 (hE119.trans0 (hE153.trans0 (hEr154.trans0 ((((Ext.refl [] _).drew)).trans0 hEc157)))))))) ?_
    rintro _ wc158 ⟨rfl, hEc158⟩
    exact ⟨_, rfl, ⟨(wc157, wc158), by kernel_rfl, by kernel_rfl, by kernel_rfl, ⟨hEc157, hEc158, trivial⟩⟩⟩
  rintro ⟨wc157, wc158⟩ a w160 hS hw161 hH
  obtain ⟨hEc157, hEc158, _⟩ := hH
  replace hw161 : w160 = wc158 := hw161.trans (by kernel_rfl)
  have hB162 := Blk.at' hw161 (((hB147.drew : Blk wc146.drew w.heap.size 26 (S.ca)).ext hEc157 (by simp) : Blk wc157 w.heap.size 26 (S.ca)).ext hEc158 (by simp))
  have hE168 : Ext [] wc146 w160 := by rw [hw161]; exact ((hEr154.drew).trans0 hEc157).trans0 hEc158
  replace hS := hS.kp [(0, .agg S.ca), (1, (Pv w.heap.size)), (2, .bool false), (4, I6 z8.1), (27, .bool false), (5, (Pv wlt.heap.size)), (7, (Pv wc38.heap.size)), (6, Sl ga38 S2.ns.length S2.ns.length), (9, (Pv wc59.heap.size)), (8, .slice bF59 S2.ns.length cF59), (11, (Pv wc84.heap.size)), (10, .slice bW84 S2.ns.length cW84), (13, (Pv wc113.heap.size)), (12, .slice bY113 mY113 cY113), (14, vR146), (15, I6 ((fH xR146.2 0).2)), (16, I6 ((fH xR146.2 0).1)), (82, .bool false)]
  refine hK156 _ _ ?_
  refine cond_f hS rfl ?_
  refine wpIn_skip <| hK155 _ _ <| sq fun K169 hK169 => rgn 22 <| sg ww [.p, .lds [S.lv, S.nv, I6 S.st, S.pv]] [_, _, _, _] [(0, .agg S.ca), (1, (Pv w.heap.size)), (2, .bool false), (4, I6 z8.1), (27, .bool false), (5, (Pv wlt.heap.size)), (7, (Pv wc38.heap.size)), (6, Sl ga38 S2.ns.length S2.ns.length), (9, (Pv wc59.heap.size)), (8, .slice bF59 S2.ns.length cF59), (11, (Pv wc84.heap.size)), (10, .slice bW84 S2.ns.length cW84), (13, (Pv wc113.heap.size)), (12, .slice bY113 mY113 cY113), (14, vR146), (15, I6 ((fH xR146.2 0).2)), (16, I6 ((fH xR146.2 0).1)), (82, .bool false), (83, Sl ga38 S2.ns.length S2.ns.length), (84, .agg S.ca)] 2 20 hS (hB162.k 0 (hB162.k 1 (hB162.k 2 (hB162.k 3 .nil)))) fun a hS => ecl 19 (some 85) hS Tryd.call22 #[.agg S.ca] (Nullable_n hG (hbr154.trans0 hE168) hok.ix) ?_
  rintro _ wc170 ⟨ge170, E170, rfl, hE170, hEc170⟩
  refine ⟨_, rfl, fun a hS => ?_⟩
  have hB171 := hB162.ext hEc170 (by simp)
  have hE177 := hE168.trans0 hEc170
  refine ecl 18 (some 86) hS Tryd.call21 #[Sl ga38 S2.ns.length S2.ns.length, Sn S ge170] (sameBools_l (hNd38.same (by rw [hns]; exact hE170.is) fun A => by rw [hSm.g]) (hN38.ext0 (hE63.trans0 (hE89.trans0 (hE119.trans0 (hE153.trans0 hE177))))) hE170.own.v.rd (by rw [hns]; omega)) ?_
  rintro _ wc178 ⟨rfl, hEc178⟩
  refine ⟨_, rfl, fun a hS => ?_⟩
  have hB179 := hB171.ext hEc178 (by simp)
  have hE185 := hE177.trans0 hEc178
  refine sd ww [.p, .p, .lds [S.lv, S.nv, I6 S.st, S.pv]] [_, _, _, _] [(87, .bool true), (88, .slice bF59 S2.ns.length cF59), (89, .agg S.ca)] [] 7 15 hS (hB179.k 0 (hB179.k 1 (hB179.k 2 (hB179.k 3 .nil)))) fun a hS => ecl 14 (some 90) hS Tryd.call24 #[.agg S.ca] (First_n hG (hbr154.trans0 hE185) hok.ix) ?_
  rintro _ wc186 ⟨b0186, m0186, c0186, L0186, rfl, hB186, hLl186, hI186, hEc186⟩
  refine ⟨_, rfl, fun a hS => ?_⟩
  have hB187 := hB179.ext hEc186 (by simp)
  have hE193 := hE185.trans0 hEc186
  refine ecl 13 (some 91) hS Tryd.call23 #[.slice bF59 S2.ns.length cF59, .slice b0186 m0186 c0186] (sameSets_eq (hF59.ext0 (hE89.trans0 (hE119.trans0 (hE153.trans0 hE193)))) hB186 ((hSm.firR hFi59).ref hI186 (by rw [List.length_map]; exact hLl186)) (by rw [hns]; omega) (by omega)) ?_
  rintro _ wc194 ⟨rfl, hEc194⟩
  refine ⟨_, rfl, fun a hS => ?_⟩
  have hB195 := hB187.ext hEc194 (by simp)
  have hE201 := hE193.trans0 hEc194
  refine sd ww [.p, .p, .p, .lds [S.lv, S.nv, I6 S.st, S.pv]] [_, _, _, _] [(93, .bool true), (94, .slice bW84 S2.ns.length cW84), (95, .agg S.ca)] [] 13 9 hS (hB195.k 0 (hB195.k 1 (hB195.k 2 (hB195.k 3 .nil)))) fun a hS => ecl 8 (some 96) hS Tryd.call25 #[.agg S.ca] (Follow_r hG (hbr154.trans0 hE201) hok.ix) ?_
  rintro _ wc202 ⟨b0202, m0202, c0202, L0202, rfl, hB202, hLl202, hI202, hEc202⟩
  refine ⟨_, rfl, fun a hS => ?_⟩
  have hE209 := hE201.trans0 hEc202
  refine ecl 7 (some 97) hS Tryd.call23 #[.slice bW84 S2.ns.length cW84, .slice b0202 m0202 c0202] (sameSets_eq (hW84.ext0 (hE119.trans0 (hE153.trans0 hE209))) hB202 ((hSm.folR hWi84).ref hI202 (by rw [List.length_map]; exact hLl202)) (by rw [hns]; omega) (by omega)) ?_
  rintro _ wc210 ⟨rfl, hEc210⟩
  refine ⟨_, rfl, fun a hS => ?_⟩
  have hE217 := hE209.trans0 hEc210
  refine sd ww [.p, .p, .p, .p] [] [(99, .bool true), (100, .slice bY113 mY113 cY113), (101, vR146)] [] 19 3 hS .nil fun a hS => ?_
  have hmY : mY113 ≤ 1048576 := by
   have h1 := hY113.len
   have h2 := hR146.len
   have h3 := hRz146.s.l1
   rw [hlY] at h1
   split at h1
   ·omega
   ·simp at h1; omega
  refine ecl 2 (some 102) hS Tryd.call26 #[.slice bY113 mY113 cY113, vR146] (sameRows_l hlY (hY113.ext0 (hE153.trans0 hE217)) (hR146.ext0 hE217) hmY) ?_
  rintro _ wc218 ⟨rfl, hEc218⟩
  refine ⟨_, rfl, fun a hS => ?_⟩
  have hE225 := hE217.trans0 hEc218
  refine sd ww [.p, .p] [] [(2, .bool true)] [] 22 0 hS .nil fun a hS => sge hK169 <| wpIn_ret ?_
  refine ret1 hS Tryd.results3 rfl ?_
  exact ⟨rfl, (hE23.trans0 (hE41.trans0 (hE63.trans0 (hE89.trans0 (hE119.trans0 (hE153.trans0 hE225))))))⟩
end Go.Proofs.YtkkpghlcmcaoiaaDoor
