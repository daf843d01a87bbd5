import Derived.Test.YtkkpghlcmcaoiaaDoorS19
namespace Go.Proofs.YtkkpghlcmcaoiaaDoor
open Go.Vc Go.Gm
def sp0 (la na pa r0 r1 r2 r4 r5 : Nat) : Sp where
 la := some ⟨la, 0, none⟩
 lc := 4
 lx := [⟨⟨#[97]⟩, false, 0, 0, 0, 0, 0, .slice none 0 0⟩, ⟨⟨#[98]⟩, false, 0, 0, 0, 0, 0, .slice none 0 0⟩, ⟨⟨#[119]⟩, true, 0, 0, 0, 0, 0, .slice none 0 0⟩, ⟨⟨#[99]⟩, false, 0, 0, 0, 0, 0, .slice none 0 0⟩]
 na := some ⟨na, 0, none⟩
 nc := 3
 ns := [⟨#[83]⟩, ⟨#[65]⟩, ⟨#[66]⟩]
 st := 0
 pa := some ⟨pa, 0, none⟩
 pc := 6
 ps := [⟨0, some ⟨r0, 0, none⟩, 3, [(3, 1), (3, 2), (1, 3)]⟩, ⟨0, some ⟨r1, 0, none⟩, 1, [(2, 0)]⟩, ⟨1, some ⟨r2, 0, none⟩, 2, [(1, 0), (3, 1)]⟩, ⟨1, none, 0, []⟩, ⟨2, some ⟨r4, 0, none⟩, 1, [(1, 1)]⟩, ⟨2, some ⟨r5, 0, none⟩, 1, [(3, 1)]⟩]
structure Sp0Ok (w : World) (la na pa r0 r1 r2 r4 r5 : Nat) : Prop where
 l : Blk w la 100 (lcells (sp0 la na pa r0 r1 r2 r4 r5).lx).toArray
 n : Blk w na 9 (ncells (sp0 la na pa r0 r1 r2 r4 r5).ns).toArray
 p : Blk w pa 73 (pcells (sp0 la na pa r0 r1 r2 r4 r5).ps).toArray
 r0 : Blk w r0 61 #[I6 3, I6 1, I6 3, I6 2, I6 1, I6 3]
 r1 : Blk w r1 61 #[I6 2, I6 0]
 r2 : Blk w r2 61 #[I6 1, I6 0, I6 3, I6 1]
 r4 : Blk w r4 61 #[I6 1, I6 1]
 r5 : Blk w r5 61 #[I6 3, I6 1]
theorem Sp0Ok.ok {w : World} {la na pa r0 r1 r2 r4 r5 : Nat} (h : Sp0Ok w la na pa r0 r1 r2 r4 r5) : SpOk w (sp0 la na pa r0 r1 r2 r4 r5) := by
 refine ⟨RdV.of_blk h.l rfl, RdV.of_blk h.n rfl, RdV.of_blk h.p rfl, fun p hp => ?_, by simp [sp0], by simp [sp0], by simp [sp0], fun p hp => ?_⟩
 ·simp only [sp0, List.mem_cons, List.not_mem_nil, or_false] at hp
  rcases hp with rfl | rfl | rfl | rfl | rfl | rfl
  ·exact RdV.of_blk h.r0 rfl
  ·exact RdV.of_blk h.r1 rfl
  ·exact RdV.of_blk h.r2 rfl
  ·exact .inl ⟨none, 0, rfl, rfl, rfl⟩
  ·exact RdV.of_blk h.r4 rfl
  ·exact RdV.of_blk h.r5 rfl
 ·simp only [sp0, List.mem_cons, List.not_mem_nil, or_false] at hp
  rcases hp with rfl | rfl | rfl | rfl | rfl | rfl <;> simp
theorem sym85_any {w : World} (n : Int) :
  Calls Tryd.prog 85 #[I6 n] w fun e w' => e = .returned (.agg #[I6 1, I6 n]) ∧ Ext [] w w' := by
 refine cbd 5 [(0, I6 n)] Tryd.func85 rfl fun a hS => ?_
 have hE0 : Ext [] w w := Ext.refl _ _
 refine sq fun K1 hK1 => rgn 1 <| ebx 0 #[I6 0, I6 0] 61 (some 2) hS fun a w2 hw3 hS => ?_
 have hB4 := Blk.nw hw3
 have hs5 := hE0.size
 have hE6 := hE0.al hw3
 refine sge hK1 <| sq fun K7 hK7 => rgn 3 <| sd ww [.p, .p] [] [(4, .agg #[I6 1, I6 n])] [] 2 1 hS .nil fun a hS => est 0 w.heap.size 0 [I6 1, I6 n] hS hB4 fun a w8 hw9 hS => ?_
 have hB10 : Blk w8 w.heap.size 61 (#[I6 1, I6 n]) := hB4.up hw9
 have hE11 := hE6.ui hw9 hs5
 refine sge hK7 <| wpIn_ret ?_
 refine retA1 hS Tryd.results85 (by kernel_rfl) (by kernel_rfl) rfl hB10 ?_
 exact ⟨rfl, hE11⟩
theorem sym86_any {w : World} (n : Int) :
  Calls Tryd.prog 86 #[I6 n] w fun e w' => e = .returned (.agg #[I6 3, I6 n]) ∧ Ext [] w w' := by
 refine cbd 5 [(0, I6 n)] Tryd.func86 rfl fun a hS => ?_
 have hE0 : Ext [] w w := Ext.refl _ _
 refine sq fun K1 hK1 => rgn 1 <| ebx 0 #[I6 0, I6 0] 61 (some 2) hS fun a w2 hw3 hS => ?_
 have hB4 := Blk.nw hw3
 have hs5 := hE0.size
 have hE6 := hE0.al hw3
 refine sge hK1 <| sq fun K7 hK7 => rgn 3 <| sd ww [.p, .p] [] [(4, .agg #[I6 3, I6 n])] [] 2 1 hS .nil fun a hS => est 0 w.heap.size 0 [I6 3, I6 n] hS hB4 fun a w8 hw9 hS => ?_
 have hB10 : Blk w8 w.heap.size 61 (#[I6 3, I6 n]) := hB4.up hw9
 have hE11 := hE6.ui hw9 hs5
 refine sge hK7 <| wpIn_ret ?_
 refine retA1 hS Tryd.results86 (by kernel_rfl) (by kernel_rfl) rfl hB10 ?_
 exact ⟨rfl, hE11⟩
set_option maxHeartbeats 1000000 in
theorem Small_any {w : World} :
  Calls Tryd.prog 50 #[] w fun e w' => ∃ la na pa r0 r1 r2 r4 r5, e = .returned (.agg #[(sp0 la na pa r0 r1 r2 r4 r5).lv, (sp0 la na pa r0 r1 r2 r4 r5).nv, I6 (sp0 la na pa r0 r1 r2 r4 r5).st, (sp0 la na pa r0 r1 r2 r4 r5).pv]) ∧ Sp0Ok w' la na pa r0 r1 r2 r4 r5 ∧ Ext [] w w' := by
 refine cbd 37 [] Tryd.func50 rfl fun a hS => ?_
 have hE0 : Ext [] w w := Ext.refl _ _
 refine sq fun K1 hK1 => rgn 1 <| ebx 0 #[.slice none 0 0, .slice none 0 0, I6 0, .slice none 0 0] 26 (some 0) hS fun a w2 hw3 hS => ?_
 have hB4 := Blk.nw hw3
 have hs5 := hE0.size
 have hE6 := hE0.al hw3
 refine sge hK1 <| sdq 1 [.p] [] [(1, .func (.func 85) #[] #[])] [] hS .nil fun a hS => sdq 1 [.p] [] [(2, .func (.func 86) #[] #[])] [] hS .nil fun a hS => sq fun K9 hK9 => rgn 35 <| sd ww [.p, .p, .p, .p] [] [(3, .agg #[.string ⟨#[97]⟩, .bool false, I6 0, I6 0, I6 0, I6 0, I6 0, .slice none 0 0]), (4, .agg #[.string ⟨#[98]⟩, .bool false, I6 0, I6 0, I6 0, I6 0, I6 0, .slice none 0 0]), (5, .agg #[.string ⟨#[119]⟩, .bool true, I6 0, I6 0, I6 0, I6 0, I6 0, .slice none 0 0]), (6, .agg #[.string ⟨#[99]⟩, .bool false, I6 0, I6 0, I6 0, I6 0, I6 0, .slice none 0 0])] [] 4 31 hS .nil fun a hS => eff_new ww (r := 30) (cs := #[.string ⟨#[97]⟩, .bool false, I6 0, I6 0, I6 0, I6 0, I6 0, .slice none 0 0, .string ⟨#[98]⟩, .bool false, I6 0, I6 0, I6 0, I6 0, I6 0, .slice none 0 0, .string ⟨#[119]⟩, .bool true, I6 0, I6 0, I6 0, I6 0, I6 0, .slice none 0 0, .string ⟨#[99]⟩, .bool false, I6 0, I6 0, I6 0, I6 0, I6 0, .slice none 0 0]) (T := 100) (v := Value.slice (some ⟨w2.heap.size, 0, none⟩) 4 4) (d := (some 7)) hS (by kernel_rfl) fun a w10 hw11 hS => ?_
 have hn12 := Nat.ne_of_lt hB4.lt
 have hB13 := Blk.at' hw11 (hB4.alloc _)
 have hB14 := Blk.nw hw11
 have hs15 := hE6.size
 have hE16 := hE6.al hw11
 refine eff_new ww (r := 29) (cs := #[.string ⟨#[83]⟩, .string ⟨#[65]⟩, .string ⟨#[66]⟩]) (T := 9) (v := Value.slice (some ⟨w10.heap.size, 0, none⟩) 3 3) (d := (some 8)) hS (by kernel_rfl) fun a w17 hw18 hS => ?_
 have hn19 := Nat.ne_of_lt hB13.lt
 have hB21 := Blk.at' hw18 (hB13.alloc _)
 have hB22 := Blk.at' hw18 (hB14.alloc _)
 have hB23 := Blk.nw hw18
 have hs24 := hE16.size
 have hE25 := hE16.al hw18
 refine sd ww [.p] [] [(9, .func (.func 86) #[] #[])] [] 7 28 hS .nil fun a hS => ecl 27 (some 10) hS Tryd.call86 #[I6 1] (sym86_any _) ?_
 rintro _ wc26 ⟨rfl, hEc26⟩
 refine ⟨_, rfl, fun a hS => ?_⟩
 have hB27 := hB21.ext hEc26 (by simp)
 have hB28 := hB22.ext hEc26 (by simp)
 have hB29 := hB23.ext hEc26 (by simp)
 have hE30 := hE25.trans0 hEc26
 refine sd ww [.p] [] [(11, .func (.func 86) #[] #[])] [] 9 26 hS .nil fun a hS => ecl 25 (some 12) hS Tryd.call86 #[I6 2] (sym86_any _) ?_
 rintro _ wc31 ⟨rfl, hEc31⟩
 refine ⟨_, rfl, fun a hS => ?_⟩
 have hB32 := hB27.ext hEc31 (by simp)
 have hB33 := hB28.ext hEc31 (by simp)
 have hB34 := hB29.ext hEc31 (by simp)
 have hE35 := hE30.trans0 hEc31
 refine sd ww [.p] [] [(13, .func (.func 85) #[] #[])] [] 11 24 hS .nil fun a hS => ecl 23 (some 14) hS Tryd.call85 #[I6 3] (sym85_any _) ?_
 rintro _ wc36 ⟨rfl, hEc36⟩
 refine ⟨_, rfl, fun a hS => ?_⟩
 have hB37 := hB32.ext hEc36 (by simp)
 have hB38 := hB33.ext hEc36 (by simp)
 have hB39 := hB34.ext hEc36 (by simp)
 have hE40 := hE35.trans0 hEc36
 refine eff_new ww (r := 22) (cs := #[I6 3, I6 1, I6 3, I6 2, I6 1, I6 3]) (T := 61) (v := Value.slice (some ⟨wc36.heap.size, 0, none⟩) 3 3) (d := (some 15)) hS (by kernel_rfl) fun a w41 hw42 hS => ?_
 have hn43 := Nat.ne_of_lt hB37.lt
 have hB46 := Blk.at' hw42 (hB37.alloc _)
 have hB47 := Blk.at' hw42 (hB38.alloc _)
 have hB48 := Blk.at' hw42 (hB39.alloc _)
 have hB49 := Blk.nw hw42
 have hs50 := hE40.size
 have hE51 := hE40.al hw42
 refine sg ww [.p, .p] [] [(0, (Pv w.heap.size)), (1, .func (.func 85) #[] #[]), (2, .func (.func 86) #[] #[]), (7, Sl w2.heap.size 4 4), (8, Sl w10.heap.size 3 3), (16, .agg #[I6 0, Sl wc36.heap.size 3 3]), (17, .agg #[I6 2, I6 0])] 15 20 hS .nil fun a hS => eff_new ww (r := 19) (cs := #[I6 2, I6 0]) (T := 61) (v := Value.slice (some ⟨w41.heap.size, 0, none⟩) 1 1) (d := (some 18)) hS (by kernel_rfl) fun a w52 hw53 hS => ?_
 have hn54 := Nat.ne_of_lt hB46.lt
 have hB58 := Blk.at' hw53 (hB46.alloc _)
 have hB59 := Blk.at' hw53 (hB47.alloc _)
 have hB60 := Blk.at' hw53 (hB48.alloc _)
 have hB61 := Blk.at' hw53 (hB49.alloc _)
 have hB62 := Blk.nw hw53
 have hs63 := hE51.size
 have hE64 := hE51.al hw53
 refine sd ww [.p, .p] [] [(19, .agg #[I6 0, Sl w41.heap.size 1 1]), (20, .func (.func 85) #[] #[])] [] 18 17 hS .nil fun a hS => ecl 16 (some 21) hS Tryd.call85 #[I6 0] (sym85_any _) ?_
 rintro _ wc65 ⟨rfl, hEc65⟩
 refine ⟨_, rfl, fun a hS => ?_⟩
 have hB66 := hB58.ext hEc65 (by simp)
 have hB67 := hB59.ext hEc65 (by simp)
 have hB68 := hB60.ext hEc65 (by simp)
 have hB69 := hB61.ext hEc65 (by simp)
 have hB70 := hB62.ext hEc65 (by simp)
 have hE71 := hE64.trans0 hEc65
 refine sd ww [.p] [] [(22, .func (.func 86) #[] #[])] [] 20 15 hS .nil fun a hS => ecl 14 (some 23) hS Tryd.call86 #[I6 1] (sym86_any _) ?_
 rintro _ wc72 ⟨rfl, hEc72⟩
 refine ⟨_, rfl, fun a hS => ?_⟩
 have hB73 := hB66.ext hEc72 (by simp)
 have hB74 := hB67.ext hEc72 (by simp)
 have hB75 := hB68.ext hEc72 (by simp)
 have hB76 := hB69.ext hEc72 (by simp)
 have hB77 := hB70.ext hEc72 (by simp)
 have hE78 := hE71.trans0 hEc72
 refine eff_new ww (r := 13) (cs := #[I6 1, I6 0, I6 3, I6 1]) (T := 61) (v := Value.slice (some ⟨wc72.heap.size, 0, none⟩) 2 2) (d := (some 24)) hS (by kernel_rfl) fun a w79 hw80 hS => ?_
 have hn81 := Nat.ne_of_lt hB73.lt
 have hB86 := Blk.at' hw80 (hB73.alloc _)
 have hB87 := Blk.at' hw80 (hB74.alloc _)
 have hB88 := Blk.at' hw80 (hB75.alloc _)
 have hB89 := Blk.at' hw80 (hB76.alloc _)
 have hB90 := Blk.at' hw80 (hB77.alloc _)
 have hB91 := Blk.nw hw80
 have hs92 := hE78.size
 have hE93 := hE78.al hw80
 refine sd ww [.p, .p, .p] [] [(25, .agg #[I6 1, Sl wc72.heap.size 2 2]), (26, .agg #[I6 1, .slice none 0 0]), (27, .func (.func 85) #[] #[])] [] 25 10 hS .nil fun a hS => ecl 9 (some 28) hS Tryd.call85 #[I6 1] (sym85_any _) ?_
 rintro _ wc94 ⟨rfl, hEc94⟩
 refine ⟨_, rfl, fun a hS => ?_⟩
 have hB95 := hB86.ext hEc94 (by simp)
 have hB96 := hB87.ext hEc94 (by simp)
 have hB97 := hB88.ext hEc94 (by simp)
 have hB98 := hB89.ext hEc94 (by simp)
 have hB99 := hB90.ext hEc94 (by simp)
 have hB100 := hB91.ext hEc94 (by simp)
 have hE101 := hE93.trans0 hEc94
 refine eff_new ww (r := 8) (cs := #[I6 1, I6 1]) (T := 61) (v := Value.slice (some ⟨wc94.heap.size, 0, none⟩) 1 1) (d := (some 29)) hS (by kernel_rfl) fun a w102 hw103 hS => ?_
 have hn104 := Nat.ne_of_lt hB95.lt
 have hB110 := Blk.at' hw103 (hB95.alloc _)
 have hB111 := Blk.at' hw103 (hB96.alloc _)
 have hB112 := Blk.at' hw103 (hB97.alloc _)
 have hB113 := Blk.at' hw103 (hB98.alloc _)
 have hB114 := Blk.at' hw103 (hB99.alloc _)
 have hB115 := Blk.at' hw103 (hB100.alloc _)
 have hB116 := Blk.nw hw103
 have hs117 := hE101.size
 have hE118 := hE101.al hw103
 refine sd ww [.p, .p] [] [(30, .agg #[I6 2, Sl wc94.heap.size 1 1]), (31, .func (.func 86) #[] #[])] [] 29 6 hS .nil fun a hS => ecl 5 (some 32) hS Tryd.call86 #[I6 1] (sym86_any _) ?_
 rintro _ wc119 ⟨rfl, hEc119⟩
 refine ⟨_, rfl, fun a hS => ?_⟩
 have hB120 := hB110.ext hEc119 (by simp)
 have hB121 := hB111.ext hEc119 (by simp)
 have hB122 := hB112.ext hEc119 (by simp)
 have hB123 := hB113.ext hEc119 (by simp)
 have hB124 := hB114.ext hEc119 (by simp)
 have hB125 := hB115.ext hEc119 (by simp)
 have hB126 := hB116.ext hEc119 (by simp)
 have hE127 := hE118.trans0 hEc119
 refine eff_new ww (r := 4) (cs := #[I6 3, I6 1]) (T := 61) (v := Value.slice (some ⟨wc119.heap.size, 0, none⟩) 1 1) (d := (some 33)) hS (by kernel_rfl) fun a w128 hw129 hS => ?_
 have hn130 := Nat.ne_of_lt hB120.lt
 have hB137 := Blk.at' hw129 (hB120.alloc _)
 have hB138 := Blk.at' hw129 (hB121.alloc _)
 have hB139 := Blk.at' hw129 (hB122.alloc _)
 have hB140 := Blk.at' hw129 (hB123.alloc _)
 have hB141 := Blk.at' hw129 (hB124.alloc _)
 have hB142 := Blk.at' hw129 (hB125.alloc _)
 have hB143 := Blk.at' hw129 (hB126.alloc _)
 have hB144 := Blk.nw hw129
 have hs145 := hE127.size
 have hE146 := hE127.al hw129
 refine sd ww [.p] [] [(34, .agg #[I6 2, Sl wc119.heap.size 1 1])] [] 32 3 hS .nil fun a hS => eff_new ww (r := 2) (cs := #[I6 0, Sl wc36.heap.size 3 3, I6 0, Sl w41.heap.size 1 1, I6 1, Sl wc72.heap.size 2 2, I6 1, .slice none 0 0, I6 2, Sl wc94.heap.size 1 1, I6 2, Sl wc119.heap.size 1 1]) (T := 73) (v := Value.slice (some ⟨w128.heap.size, 0, none⟩) 6 6) (d := (some 35)) hS (by kernel_rfl) fun a w147 hw148 hS => ?_
 have hn149 := Nat.ne_of_lt hB137.lt
 have hB157 := Blk.at' hw148 (hB137.alloc _)
 have hB158 := Blk.at' hw148 (hB138.alloc _)
 have hB159 := Blk.at' hw148 (hB139.alloc _)
 have hB160 := Blk.at' hw148 (hB140.alloc _)
 have hB161 := Blk.at' hw148 (hB141.alloc _)
 have hB162 := Blk.at' hw148 (hB142.alloc _)
 have hB163 := Blk.at' hw148 (hB143.alloc _)
 have hB164 := Blk.at' hw148 (hB144.alloc _)
 have hB165 := Blk.nw hw148
 have hs166 := hE146.size
 have hE167 := hE146.al hw148
 refine sd ww [.p] [] [(36, .agg #[Sl w2.heap.size 4 4, Sl w10.heap.size 3 3, I6 0, Sl w128.heap.size 6 6])] [] 34 1 hS .nil fun a hS => est 0 w.heap.size 0 [Sl w2.heap.size 4 4, Sl w10.heap.size 3 3, I6 0, Sl w128.heap.size 6 6] hS hB157 fun a w168 hw169 hS => ?_
 have hB170 : Blk w168 w.heap.size 26 (#[Sl w2.heap.size 4 4, Sl w10.heap.size 3 3, I6 0, Sl w128.heap.size 6 6]) := hB157.up hw169
 have hB171 := Blk.at' hw169 (hB158.updNe hn12 _ _)
 have hB172 := Blk.at' hw169 (hB159.updNe hn19 _ _)
 have hB173 := Blk.at' hw169 (hB160.updNe hn43 _ _)
 have hB174 := Blk.at' hw169 (hB161.updNe hn54 _ _)
 have hB175 := Blk.at' hw169 (hB162.updNe hn81 _ _)
 have hB176 := Blk.at' hw169 (hB163.updNe hn104 _ _)
 have hB177 := Blk.at' hw169 (hB164.updNe hn130 _ _)
 have hB178 := Blk.at' hw169 (hB165.updNe hn149 _ _)
 have hE179 := hE167.ui hw169 hs5
 refine sge hK9 <| wpIn_ret ?_
 refine retA1 hS Tryd.results50 (by kernel_rfl) (by kernel_rfl) rfl hB170 ?_
 exact ⟨w2.heap.size, w10.heap.size, w128.heap.size, wc36.heap.size, w41.heap.size, wc72.heap.size, wc94.heap.size, wc119.heap.size, rfl, ⟨hB171, hB172, hB178, hB173, hB174, hB175, hB176, hB177⟩, hE179⟩
end Go.Proofs.YtkkpghlcmcaoiaaDoor
