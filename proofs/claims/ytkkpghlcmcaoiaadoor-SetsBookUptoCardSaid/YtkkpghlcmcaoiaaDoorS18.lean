import Derived.Test.YtkkpghlcmcaoiaaDoorS13
import Derived.Test.YtkkpghlcmcaoiaaDoorS17
namespace Go.Proofs.YtkkpghlcmcaoiaaDoor
open Go.Vc Go.Gm
theorem FirR.len {S : Sp} {ls : List (List Nat)} (h : FirR S ls) : ls.length = S.ns.length := by
 obtain ⟨fs, rfl, h1, _⟩ := h
 rw [List.length_map, h1]
theorem FolR.len {S : Sp} {ls : List (List Nat)} (h : FolR S ls) : ls.length = S.ns.length := by
 obtain ⟨fs, rfl, h1, _⟩ := h
 rw [List.length_map, h1]
section
variable {w0 w : World} {S : Sp} (hG : SpOk w0 S) (hb : Ext [] w0 w) (hok : GOk S)
include hG hb hok
theorem Nullable_ok : Calls Tryd.prog 14 #[.agg S.ca] w fun e w' => ∃ g bs, e = .returned (.tuple #[Sn S g, .agg #[I6 0, I6 0, .string ⟨#[]⟩]]) ∧ OwnR w' 4 1 g S.ns.length S.ns.length (bls bs) ∧ IsD S.g false S.ns.length bs ∧ w.heap.size ≤ g ∧ Ext [] w w' := by
 refine (Nullable_any hG hb).mono ?_
 rintro e w' ⟨z, hZ, h | ⟨_, g, bs, h1, h2, h3, h4⟩, hE⟩
 ·exact absurd (hZ.zero.2.2 hok) h.1
 ·exact ⟨g, bs, h1, h2, h3, h4, hE⟩
theorem First_ok (hT : Tab w0) : Calls Tryd.prog 15 #[.agg S.ca] w fun e w' => ∃ bs cp L ls, e = .returned (.tuple #[.slice bs S.ns.length cp, .agg #[I6 0, I6 0, .string ⟨#[]⟩]]) ∧ Lsts w.heap.size w' bs S.ns.length cp L ls ∧ FirR S ls ∧ Ext [] w w' := by
 refine (First_any hG hb hT).mono ?_
 rintro e w' ⟨z, hZ, h | ⟨_, bs, m, cp, L, ls, h1, h2, h3⟩, hE⟩
 ·exact absurd (hZ.zero.2.2 hok) h.1
 ·obtain rfl : m = S.ns.length := h2.len.2.symm.trans h3.len
  exact ⟨bs, cp, L, ls, h1, h2, h3, hE⟩
theorem Follow_ok (hT : Tab w0) : Calls Tryd.prog 16 #[.agg S.ca] w fun e w' => ∃ bs cp L ls, e = .returned (.tuple #[.slice bs S.ns.length cp, .agg #[I6 0, I6 0, .string ⟨#[]⟩]]) ∧ Lsts w.heap.size w' bs S.ns.length cp L ls ∧ FolR S ls ∧ Ext [] w w' := by
 refine (Follow_any hG hb hT).mono ?_
 rintro e w' ⟨z, hZ, h | ⟨_, bs, m, cp, L, ls, h1, h2, h3⟩, hE⟩
 ·exact absurd (hZ.zero.2.2 hok) h.1
 ·obtain rfl : m = S.ns.length := h2.len.2.symm.trans h3.len
  exact ⟨bs, cp, L, ls, h1, h2, h3, hE⟩
end
def YoR (S : Sp) (k at' : Int) (bs : Option Addr) (m cp : Nat) (L : List Rw) (ls : List (List Nat)) : Prop := ∃ vs, LenR S vs ∧ ((k = 6 ∧ (fY vs 0).1 ≠ 0 ∧ at' = (fY vs 0).2 ∧ bs = none ∧ m = 0 ∧ cp = 0 ∧ L = [] ∧ ls = []) ∨ (k = 0 ∧ at' = 0 ∧ (fY vs 0).1 = 0 ∧ m = S.ns.length ∧ YldR S ls))
theorem Lsts.none (N : Nat) (w : World) : Lsts N w none 0 0 [] [] := ⟨OwnV.nil _ _ _, fun x hx => by simp [ob] at hx, Fam.nil, rfl⟩
theorem Yields_ok {w0 w : World} {S : Sp} (hG : SpOk w0 S) (hb : Ext [] w0 w) (hok : GOk S) : Calls Tryd.prog 17 #[.agg S.ca] w fun e w' => ∃ bs m cp L ls k at', e = .returned (.tuple #[.slice bs m cp, .agg #[I6 k, I6 at', .string ⟨#[]⟩]]) ∧ Lsts w.heap.size w' bs m cp L ls ∧ YoR S k at' bs m cp L ls ∧ Ext [] w w' := by
 refine (Yields_any hG hb).mono ?_
 rintro e w' ⟨z, hZ, h | ⟨_, vs, hL, ⟨h1, h2⟩ | ⟨h1, bs, m, cp, L, ls, h2, h3, h4⟩⟩, hE⟩
 ·exact absurd (hZ.zero.2.2 hok) h.1
 ·exact ⟨none, 0, 0, [], [], 6, _, h2, Lsts.none _ _, ⟨vs, hL, .inl ⟨rfl, h1, rfl, rfl, rfl, rfl, rfl, rfl⟩⟩, hE⟩
 ·exact ⟨bs, m, cp, L, ls, 0, 0, h2, h3, ⟨vs, hL, .inr ⟨rfl, rfl, h1, h3.len.2.symm.trans h4.1, h4⟩⟩, hE⟩
structure Td where
 eg : Nat
 es : List Bool
 fb : Option Addr
 fc : Nat
 fL : List Rw
 fl : List (List Nat)
 wb : Option Addr
 wc : Nat
 wL : List Rw
 wl : List (List Nat)
 yb : Option Addr
 yn : Nat
 yc : Nat
 yL : List Rw
 yl : List (List Nat)
 full : Bool
def Td.cells (S : Sp) (T : Td) : Array Value := #[Sn S T.eg, .slice T.fb S.ns.length T.fc, .slice T.wb S.ns.length T.wc, .slice T.yb T.yn T.yc, .bool T.full]
structure TdOk (S : Sp) (N : Nat) (w : World) (T : Td) : Prop where
 re : OwnR w 4 1 T.eg S.ns.length S.ns.length (bls T.es)
 ne : N ≤ T.eg
 isE : IsD S.g false S.ns.length T.es
 lf : Lsts N w T.fb S.ns.length T.fc T.fL T.fl
 isF : FirR S T.fl
 lw : Lsts N w T.wb S.ns.length T.wc T.wL T.wl
 isW : FolR S T.wl
 ly : Lsts N w T.yb T.yn T.yc T.yL T.yl
 isY : ∃ k at', YoR S k at' T.yb T.yn T.yc T.yL T.yl ∧ (T.full = true ↔ k = 6)
 afw : ∀ b ∈ oa T.fb ++ bl T.fL, b ∉ oa T.wb ++ bl T.wL
 afy : ∀ b ∈ oa T.fb ++ bl T.fL, b ∉ oa T.yb ++ bl T.yL
 awy : ∀ b ∈ oa T.wb ++ bl T.wL, b ∉ oa T.yb ++ bl T.yL
theorem Lsts.lie {N : Nat} {w : World} {bs : Option Addr} {n cp : Nat} {L : List Rw} {ls : List (List Nat)} (h : Lsts N w bs n cp L ls) : ∀ b ∈ oa bs ++ bl L, b < w.heap.size := fun b hb => by
 rcases List.mem_append.1 hb with hb | hb
 ·exact h.own.lie b (by rw [ob_oa]; exact hb)
 ·exact h.fam.blt b hb
theorem Lsts.ge {N : Nat} {w : World} {bs : Option Addr} {n cp : Nat} {L : List Rw} {ls : List (List Nat)} (h : Lsts N w bs n cp L ls) : ∀ b ∈ oa bs ++ bl L, N ≤ b := fun b hb => by
 rcases List.mem_append.1 hb with hb | hb
 ·exact h.new b (by rw [ob_oa]; exact hb)
 ·exact h.fam.bD b hb
theorem Lsts.apart {N N' : Nat} {w w' : World} {bs bs' : Option Addr} {n n' cp cp' : Nat} {L L' : List Rw} {ls ls' : List (List Nat)} (h : Lsts N w bs n cp L ls) (h' : Lsts N' w' bs' n' cp' L' ls') (hN : w.heap.size ≤ N') : ∀ b ∈ oa bs ++ bl L, b ∉ oa bs' ++ bl L' := fun b hb hb' => by
 have h1 := h.lie b hb
 have h2 := h'.ge b hb'
 omega
set_option maxHeartbeats 1000000 in
theorem told_any {w0 w : World} {S : Sp} (hG : SpOk w0 S) (hb : Ext [] w0 w) (hT : Tab w0) :
  Calls Tryd.prog 27 #[.agg S.ca] w fun e w' => ∃ z : Int × Int, ChkR S z ∧ ((z.1 ≠ 0 ∧ e = .returned (.tuple #[.agg #[.slice none 0 0, .slice none 0 0, .slice none 0 0, .slice none 0 0, .bool false], .bool false, .bool true])) ∨ (z.1 = 0 ∧ ∃ T : Td, e = .returned (.tuple #[.agg (T.cells S), .bool true, .bool true]) ∧ TdOk S w.heap.size w' T)) ∧ Ext [] w w' := by
 refine cbd 107 [(0, .agg S.ca)] Tryd.func27 rfl fun a hS => ?_
 have hE0 : Ext [] w w := Ext.refl _ _
 refine sq fun K1 hK1 => rgn 4 <| ebx 3 S.ca 26 (some 1) hS fun a w2 hw3 hS => ?_
 have hB4 := Blk.nw hw3
 have hs5 := hE0.size
 have hE6 := hE0.al hw3
 refine ebx 2 #[.slice none 0 0, .slice none 0 0, .slice none 0 0, .slice none 0 0, .bool false] 53 (some 2) hS fun a w7 hw8 hS => ?_
 have hB10 := Blk.at' hw8 (hB4.alloc _)
 have hB11 := Blk.nw hw8
 have hs12 := hE6.size
 have hE13 := hE6.al hw8
 refine sd ww [.p, .p] [] [(3, .bool false), (4, .bool false)] [] 4 0 hS .nil fun a hS => sge hK1 <| sq fun K14 hK14 => rgn 1 <| ebx 0 #[.slice none 0 0, .slice none 0 0, .slice none 0 0, .slice none 0 0, .bool false] 53 (some 5) hS fun a w15 hw16 hS => ?_
 have hn18 := Nat.ne_of_lt hB11.lt
 have hB19 := Blk.at' hw16 (hB10.alloc _)
 have hB20 := Blk.at' hw16 (hB11.alloc _)
 have hB21 := Blk.nw hw16
 have hs22 := hE13.size
 have hE23 := hE13.al hw16
 refine sge hK14 <| sq fun K24 hK24 => rgn 4 <| sd ww [.lds [S.lv, S.nv, I6 S.st, S.pv]] [_, _, _, _] [(17, .agg S.ca)] [] 1 3 hS (hB19.k 0 (hB19.k 1 (hB19.k 2 (hB19.k 3 .nil)))) fun a hS => ecl 2 (some 18) hS Tryd.call36 #[.agg S.ca] (check_any hG (hb.trans0 hE23)) ?_
 rintro _ wc25 ⟨z25, rfl, hZ25, hEc25⟩
 refine ⟨_, rfl, fun a hS => ?_⟩
 have hB26 := hB19.ext hEc25 (by simp)
 have hB27 := hB20.ext hEc25 (by simp)
 have hB28 := hB21.ext hEc25 (by simp)
 have hE29 := hE23.trans0 hEc25
 refine ebx 1 #[I6 0, I6 0, .string ⟨#[]⟩] 34 (some 6) hS fun a w30 hw31 hS => ?_
 have hn32 := Nat.ne_of_lt hB26.lt
 have hn33 := Nat.ne_of_lt hB27.lt
 have hn34 := Nat.ne_of_lt hB28.lt
 have hB35 := Blk.at' hw31 (hB26.alloc _)
 have hB36 := Blk.at' hw31 (hB27.alloc _)
 have hB37 := Blk.at' hw31 (hB28.alloc _)
 have hB38 := Blk.nw hw31
 have hs39 := hE29.size
 have hE40 := hE29.al hw31
 refine est 0 wc25.heap.size 0 [I6 z25.1, I6 z25.2, .string ⟨#[]⟩] hS hB38 fun a w41 hw42 hS => ?_
 have hB43 := Blk.at' hw42 (hB35.updNe (Ne.symm hn32) _ _)
 have hB44 := Blk.at' hw42 (hB36.updNe (Ne.symm hn33) _ _)
 have hB45 := Blk.at' hw42 (hB37.updNe (Ne.symm hn34) _ _)
 have hB46 : Blk w41 wc25.heap.size 34 (#[I6 z25.1, I6 z25.2, .string ⟨#[]⟩]) := hB38.up hw42
 have hE47 := hE40.ui hw42 hs39
 refine sge hK24 <| sq fun K48 hK48 => sdq 3 [.p, .ld (I6 z25.1), .p] [_] [(21, .bool ((z25.1 : Int) != 0))] [] hS (hB46.k 0 .nil) fun a hS => ?_
 refine cond_b hS rfl (fun hb50 => ?_) (fun hb50 => ?_)
 ·
  replace hb50 := test_ne_t hb50
  refine sq fun K51 hK51 => rgn 4 <| sd ww [.lds [.slice none 0 0, .slice none 0 0, .slice none 0 0, .slice none 0 0, .bool false]] [_, _, _, _, _] [(22, .agg #[.slice none 0 0, .slice none 0 0, .slice none 0 0, .slice none 0 0, .bool false])] [] 1 3 hS (hB45.k 0 (hB45.k 1 (hB45.k 2 (hB45.k 3 (hB45.k 4 .nil))))) fun a hS => est 2 w2.heap.size 0 [.slice none 0 0, .slice none 0 0, .slice none 0 0, .slice none 0 0, .bool false] hS hB44 fun a w52 hw53 hS => ?_
  have hB55 : Blk w52 w2.heap.size 53 (#[.slice none 0 0, .slice none 0 0, .slice none 0 0, .slice none 0 0, .bool false]) := hB44.up hw53
  have hE58 := hE47.ui hw53 hs12
  refine sd ww [.p, .p] [] [(4, .bool true)] [] 4 0 hS .nil fun a hS => sge hK51 <| wpIn_ret <| then_ret ?_
  refine retATT hS Tryd.results27 (by kernel_rfl) (by kernel_rfl) rfl rfl rfl hB55 ?_
  exact ⟨z25, hZ25, .inl ⟨hb50, rfl⟩, hE58⟩
 ·
  replace hb50 := test_ne_f hb50
  have hok := hZ25.zero.2.1 hb50
  refine wpIn_skip <| hK48 _ _ <| sq fun K59 hK59 => rgn 8 <| sd ww [.lds [S.lv, S.nv, I6 S.st, S.pv]] [_, _, _, _] [(24, .agg S.ca)] [] 1 7 hS (hB43.k 0 (hB43.k 1 (hB43.k 2 (hB43.k 3 .nil)))) fun a hS => ecl 6 (some 25) hS Tryd.call14 #[.agg S.ca] (Nullable_ok hG (hb.trans0 hE47) hok) ?_
  rintro _ wc60 ⟨g60, bs60, rfl, hO60, hD60, hgn60, hEc60⟩
  refine ⟨_, rfl, fun a hS => ?_⟩
  have hB61 := hB43.ext hEc60 (by simp)
  have hB62 := hB44.ext hEc60 (by simp)
  have hB63 := hB45.ext hEc60 (by simp)
  have hE65 := hE47.trans0 hEc60
  refine sd ww [.p, .p, .p] [] [(26, Sn S g60), (27, .agg #[I6 0, I6 0, .string ⟨#[]⟩])] [] 5 3 hS .nil fun a hS => ebx 2 #[I6 0, I6 0, .string ⟨#[]⟩] 34 (some 8) hS fun a w66 hw67 hS => ?_
  have hn68 := Nat.ne_of_lt hB61.lt
  have hn69 := Nat.ne_of_lt hB62.lt
  have hn70 := Nat.ne_of_lt hB63.lt
  have hn72 := Nat.ne_of_lt hO60.lt
  have hB73 := Blk.at' hw67 (hB61.alloc _)
  have hB74 := Blk.at' hw67 (hB62.alloc _)
  have hB75 := Blk.at' hw67 (hB63.alloc _)
  have hB77 := OwnR.at' hw67 (hO60.alloc _)
  have hB78 := Blk.nw hw67
  have hs79 := hE65.size
  have hE80 := hE65.al hw67
  refine sd ww [.p] [] [(7, Sn S g60)] [] 7 1 hS .nil fun a hS => est 0 wc60.heap.size 0 [I6 0, I6 0, .string ⟨#[]⟩] hS hB78 fun a w81 hw82 hS => ?_
  have hB83 := Blk.at' hw82 (hB73.updNe (Ne.symm hn68) _ _)
  have hB84 := Blk.at' hw82 (hB74.updNe (Ne.symm hn69) _ _)
  have hB85 := Blk.at' hw82 (hB75.updNe (Ne.symm hn70) _ _)
  have hB87 := OwnR.at' hw82 (hB77.updNe (Ne.symm hn72) _ _)
  have hB88 : Blk w81 wc60.heap.size 34 (#[I6 0, I6 0, .string ⟨#[]⟩]) := hB78.up hw82
  have hE89 := hE80.ui hw82 hs79
  refine sge hK59 <| sq fun K90 hK90 => rgn 8 <| sg ww [.lds [S.lv, S.nv, I6 S.st, S.pv]] [_, _, _, _] [(0, .agg S.ca), (1, (Pv w.heap.size)), (2, (Pv w2.heap.size)), (3, .bool false), (4, .bool false), (5, (Pv w7.heap.size)), (6, (Pv wc25.heap.size)), (21, .bool ((z25.1 : Int) != 0)), (8, (Pv wc60.heap.size)), (7, Sn S g60), (29, .agg S.ca)] 1 7 hS (hB83.k 0 (hB83.k 1 (hB83.k 2 (hB83.k 3 .nil)))) fun a hS => ecl 6 (some 30) hS Tryd.call15 #[.agg S.ca] (First_ok hG (hb.trans0 hE89) hok hT) ?_
  rintro _ wc91 ⟨bs91, cp91, L91, ls91, rfl, hL91, hR91, hEc91⟩
  refine ⟨_, rfl, fun a hS => ?_⟩
  have hB92 := hB83.ext hEc91 (by simp)
  have hB93 := hB84.ext hEc91 (by simp)
  have hB94 := hB85.ext hEc91 (by simp)
  have hB96 := hB87.ext hEc91 (by simp)
  have hB97 := hB88.ext hEc91 (by simp)
  have hE98 := hE89.trans0 hEc91
  refine sd ww [.p, .p, .p] [] [(31, .slice bs91 S.ns.length cp91), (32, .agg #[I6 0, I6 0, .string ⟨#[]⟩])] [] 5 3 hS .nil fun a hS => ebx 2 #[I6 0, I6 0, .string ⟨#[]⟩] 34 (some 10) hS fun a w99 hw100 hS => ?_
  have hn101 := Nat.ne_of_lt hB92.lt
  have hn102 := Nat.ne_of_lt hB93.lt
  have hn103 := Nat.ne_of_lt hB94.lt
  have hn105 := Nat.ne_of_lt hB96.lt
  have hn106 := Nat.ne_of_lt hB97.lt
  have hB107 := Blk.at' hw100 (hB92.alloc _)
  have hB108 := Blk.at' hw100 (hB93.alloc _)
  have hB109 := Blk.at' hw100 (hB94.alloc _)
  have hB111 := OwnR.at' hw100 (hB96.alloc _)
  have hB112 := Blk.at' hw100 (hB97.alloc _)
  have hX113 : Ext [] wc91 w99 := by rw [hw100]; exact (Ext.refl _ _).alloc _
  have hG114 : Lsts w81.heap.size w99 bs91 S.ns.length cp91 L91 ls91 := hL91.ext0 hX113
  have hG115 : wc91.heap.size ≤ w99.heap.size := Nat.le_trans (Nat.le_refl wc91.heap.size) hX113.size
  have hB116 := Blk.nw hw100
  have hs117 := hE98.size
  have hE118 := hE98.al hw100
  refine sd ww [.p] [] [(9, .slice bs91 S.ns.length cp91)] [] 7 1 hS .nil fun a hS => est 0 wc91.heap.size 0 [I6 0, I6 0, .string ⟨#[]⟩] hS hB116 fun a w119 hw120 hS => ?_
  have hB121 := Blk.at' hw120 (hB107.updNe (Ne.symm hn101) _ _)
  have hB122 := Blk.at' hw120 (hB108.updNe (Ne.symm hn102) _ _)
  have hB123 := Blk.at' hw120 (hB109.updNe (Ne.symm hn103) _ _)
  have hB125 := OwnR.at' hw120 (hB111.updNe (Ne.symm hn105) _ _)
  have hB126 := Blk.at' hw120 (hB112.updNe (Ne.symm hn106) _ _)
  have hB127 : Blk w119 wc91.heap.size 34 (#[I6 0, I6 0, .string ⟨#[]⟩]) := hB116.up hw120
  have hX128 : Ext [wc91.heap.size] w99 w119 := by rw [hw120]; exact (Ext.refl _ _).updIn (.inl (by simp)) _ _
  have hG129 : Lsts w81.heap.size w119 bs91 S.ns.length cp91 L91 ls91 := hG114.extT hX128 hB116 (by decide) (by decide)
  have hG130 : wc91.heap.size ≤ w119.heap.size := Nat.le_trans hG115 hX128.size
  have hE131 := hE118.ui hw120 hs117
  refine sge hK90 <| sq fun K132 hK132 => rgn 8 <| sd ww [.lds [S.lv, S.nv, I6 S.st, S.pv]] [_, _, _, _] [(34, .agg S.ca)] [] 1 7 hS (hB121.k 0 (hB121.k 1 (hB121.k 2 (hB121.k 3 .nil)))) fun a hS => ecl 6 (some 35) hS Tryd.call16 #[.agg S.ca] (Follow_ok hG (hb.trans0 hE131) hok hT) ?_
  rintro _ wc133 ⟨bs133, cp133, L133, ls133, rfl, hL133, hR133, hEc133⟩
  refine ⟨_, rfl, fun a hS => ?_⟩
  have hB134 := hB121.ext hEc133 (by simp)
  have hB135 := hB122.ext hEc133 (by simp)
  have hB136 := hB123.ext hEc133 (by simp)
  have hB138 := hB125.ext hEc133 (by simp)
  have hB139 := hB126.ext hEc133 (by simp)
  have hB140 := hB127.ext hEc133 (by simp)
  have hG141 : Lsts w81.heap.size wc133 bs91 S.ns.length cp91 L91 ls91 := hG129.ext0 hEc133
  have hG142 : wc91.heap.size ≤ wc133.heap.size := Nat.le_trans hG130 hEc133.size
  have hE143 := hE131.trans0 hEc133
  refine sd ww [.p, .p, .p] [] [(36, .slice bs133 S.ns.length cp133), (37, .agg #[I6 0, I6 0, .string ⟨#[]⟩])] [] 5 3 hS .nil fun a hS => ebx 2 #[I6 0, I6 0, .string ⟨#[]⟩] 34 (some 12) hS fun a w144 hw145 hS => ?_
  have hn146 := Nat.ne_of_lt hB134.lt
  have hn147 := Nat.ne_of_lt hB135.lt
  have hn148 := Nat.ne_of_lt hB136.lt
  have hn150 := Nat.ne_of_lt hB138.lt
  have hn151 := Nat.ne_of_lt hB139.lt
  have hn152 := Nat.ne_of_lt hB140.lt
  have hB153 := Blk.at' hw145 (hB134.alloc _)
  have hB154 := Blk.at' hw145 (hB135.alloc _)
  have hB155 := Blk.at' hw145 (hB136.alloc _)
  have hB157 := OwnR.at' hw145 (hB138.alloc _)
  have hB158 := Blk.at' hw145 (hB139.alloc _)
  have hB159 := Blk.at' hw145 (hB140.alloc _)
  have hX160 : Ext [] wc133 w144 := by rw [hw145]; exact (Ext.refl _ _).alloc _
  have hG161 : Lsts w81.heap.size w144 bs91 S.ns.length cp91 L91 ls91 := hG141.ext0 hX160
  have hG162 : wc91.heap.size ≤ w144.heap.size := Nat.le_trans hG142 hX160.size
  have hG163 : Lsts w119.heap.size w144 bs133 S.ns.length cp133 L133 ls133 := hL133.ext0 hX160
  have hG164 : wc133.heap.size ≤ w144.heap.size := Nat.le_trans (Nat.le_refl wc133.heap.size) hX160.size
  have hB165 := Blk.nw hw145
  have hs166 := hE143.size
  have hE167 := hE143.al hw145
  refine sd ww [.p] [] [(11, .slice bs133 S.ns.length cp133)] [] 7 1 hS .nil fun a hS => est 0 wc133.heap.size 0 [I6 0, I6 0, .string ⟨#[]⟩] hS hB165 fun a w168 hw169 hS => ?_
  have hB170 := Blk.at' hw169 (hB153.updNe (Ne.symm hn146) _ _)
  have hB171 := Blk.at' hw169 (hB154.updNe (Ne.symm hn147) _ _)
  have hB172 := Blk.at' hw169 (hB155.updNe (Ne.symm hn148) _ _)
  have hB174 := OwnR.at' hw169 (hB157.updNe (Ne.symm hn150) _ _)
  have hB175 := Blk.at' hw169 (hB158.updNe (Ne.symm hn151) _ _)
  have hB176 := Blk.at' hw169 (hB159.updNe (Ne.symm hn152) _ _)
  have hB177 : Blk w168 wc133.heap.size 34 (#[I6 0, I6 0, .string ⟨#[]⟩]) := hB165.up hw169
  have hX178 : Ext [wc133.heap.size] w144 w168 := by rw [hw169]; exact (Ext.refl _ _).updIn (.inl (by simp)) _ _
  have hG179 : Lsts w81.heap.size w168 bs91 S.ns.length cp91 L91 ls91 := hG161.extT hX178 hB165 (by decide) (by decide)
  have hG180 : wc91.heap.size ≤ w168.heap.size := Nat.le_trans hG162 hX178.size
  have hG181 : Lsts w119.heap.size w168 bs133 S.ns.length cp133 L133 ls133 := hG163.extT hX178 hB165 (by decide) (by decide)
  have hG182 : wc133.heap.size ≤ w168.heap.size := Nat.le_trans hG164 hX178.size
  have hE183 := hE167.ui hw169 hs166
  refine sge hK132 <| sq fun K184 hK184 => rgn 8 <| sd ww [.lds [S.lv, S.nv, I6 S.st, S.pv]] [_, _, _, _] [(39, .agg S.ca)] [] 1 7 hS (hB170.k 0 (hB170.k 1 (hB170.k 2 (hB170.k 3 .nil)))) fun a hS => ecl 6 (some 40) hS Tryd.call17 #[.agg S.ca] (Yields_ok hG (hb.trans0 hE183) hok) ?_
  rintro _ wc185 ⟨bs185, m185, cp185, L185, ls185, k185, ka185, rfl, hL185, hR185, hEc185⟩
  refine ⟨_, rfl, fun a hS => ?_⟩
  have hB186 := hB170.ext hEc185 (by simp)
  have hB187 := hB171.ext hEc185 (by simp)
  have hB188 := hB172.ext hEc185 (by simp)
  have hB190 := hB174.ext hEc185 (by simp)
  have hB191 := hB175.ext hEc185 (by simp)
  have hB192 := hB176.ext hEc185 (by simp)
  have hB193 := hB177.ext hEc185 (by simp)
  have hG194 : Lsts w81.heap.size wc185 bs91 S.ns.length cp91 L91 ls91 := hG179.ext0 hEc185
  have hG195 : wc91.heap.size ≤ wc185.heap.size := Nat.le_trans hG180 hEc185.size
  have hG196 : Lsts w119.heap.size wc185 bs133 S.ns.length cp133 L133 ls133 := hG181.ext0 hEc185
  have hG197 : wc133.heap.size ≤ wc185.heap.size := Nat.le_trans hG182 hEc185.size
  have hE198 := hE183.trans0 hEc185
  refine sg ww [.p, .p, .p] [] [(0, .agg S.ca), (1, (Pv w.heap.size)), (2, (Pv w2.heap.size)), (3, .bool false), (4, .bool false), (5, (Pv w7.heap.size)), (6, (Pv wc25.heap.size)), (21, .bool ((z25.1 : Int) != 0)), (8, (Pv wc60.heap.size)), (7, Sn S g60), (10, (Pv wc91.heap.size)), (9, .slice bs91 S.ns.length cp91), (12, (Pv wc133.heap.size)), (11, .slice bs133 S.ns.length cp133), (41, .slice bs185 m185 cp185), (42, .agg #[I6 k185, I6 ka185, .string ⟨#[]⟩])] 5 3 hS .nil fun a hS => ebx 2 #[I6 0, I6 0, .string ⟨#[]⟩] 34 (some 14) hS fun a w199 hw200 hS => ?_
  have hn201 := Nat.ne_of_lt hB186.lt
  have hn202 := Nat.ne_of_lt hB187.lt
  have hn203 := Nat.ne_of_lt hB188.lt
  have hn205 := Nat.ne_of_lt hB190.lt
  have hn206 := Nat.ne_of_lt hB191.lt
  have hn207 := Nat.ne_of_lt hB192.lt
  have hn208 := Nat.ne_of_lt hB193.lt
  have hB209 := Blk.at' hw200 (hB186.alloc _)
  have hB210 := Blk.at' hw200 (hB187.alloc _)
  have hB211 := Blk.at' hw200 (hB188.alloc _)
  have hB213 := OwnR.at' hw200 (hB190.alloc _)
  have hB214 := Blk.at' hw200 (hB191.alloc _)
  have hB215 := Blk.at' hw200 (hB192.alloc _)
  have hB216 := Blk.at' hw200 (hB193.alloc _)
  have hX217 : Ext [] wc185 w199 := by rw [hw200]; exact (Ext.refl _ _).alloc _
  have hG218 : Lsts w81.heap.size w199 bs91 S.ns.length cp91 L91 ls91 := hG194.ext0 hX217
  have hG219 : wc91.heap.size ≤ w199.heap.size := Nat.le_trans hG195 hX217.size
  have hG220 : Lsts w119.heap.size w199 bs133 S.ns.length cp133 L133 ls133 := hG196.ext0 hX217
  have hG221 : wc133.heap.size ≤ w199.heap.size := Nat.le_trans hG197 hX217.size
  have hG222 : Lsts w168.heap.size w199 bs185 m185 cp185 L185 ls185 := hL185.ext0 hX217
  have hB223 := Blk.nw hw200
  have hs224 := hE198.size
  have hE225 := hE198.al hw200
  refine sd ww [.p] [] [(13, .slice bs185 m185 cp185)] [] 7 1 hS .nil fun a hS => est 0 wc185.heap.size 0 [I6 k185, I6 ka185, .string ⟨#[]⟩] hS hB223 fun a w226 hw227 hS => ?_
  have hB228 := Blk.at' hw227 (hB209.updNe (Ne.symm hn201) _ _)
  have hB229 := Blk.at' hw227 (hB210.updNe (Ne.symm hn202) _ _)
  have hB230 := Blk.at' hw227 (hB211.updNe (Ne.symm hn203) _ _)
  have hB232 := OwnR.at' hw227 (hB213.updNe (Ne.symm hn205) _ _)
  have hB233 := Blk.at' hw227 (hB214.updNe (Ne.symm hn206) _ _)
  have hB234 := Blk.at' hw227 (hB215.updNe (Ne.symm hn207) _ _)
  have hB235 := Blk.at' hw227 (hB216.updNe (Ne.symm hn208) _ _)
  have hB236 : Blk w226 wc185.heap.size 34 (#[I6 k185, I6 ka185, .string ⟨#[]⟩]) := hB223.up hw227
  have hX237 : Ext [wc185.heap.size] w199 w226 := by rw [hw227]; exact (Ext.refl _ _).updIn (.inl (by simp)) _ _
  have hG238 : Lsts w81.heap.size w226 bs91 S.ns.length cp91 L91 ls91 := hG218.extT hX237 hB223 (by decide) (by decide)
  have hG239 : wc91.heap.size ≤ w226.heap.size := Nat.le_trans hG219 hX237.size
  have hG240 : Lsts w119.heap.size w226 bs133 S.ns.length cp133 L133 ls133 := hG220.extT hX237 hB223 (by decide) (by decide)
  have hG241 : wc133.heap.size ≤ w226.heap.size := Nat.le_trans hG221 hX237.size
  have hG242 : Lsts w168.heap.size w226 bs185 m185 cp185 L185 ls185 := hG222.extT hX237 hB223 (by decide) (by decide)
  have hE243 := hE225.ui hw227 hs224
  refine sge hK184 <| sdq 4 [.p, .ld (S.nv), .run (I6 S.ns.length), .p] [_, Rv (Builtin.len_ #[23] 3 #[S.nv]) (I6 S.ns.length) w226] [(15, I6 S.ns.length)] [] hS (hB228.k 1 (.c (rlr 9 hG.names) .nil)) fun a hS => sq fun K245 hK245 => ?_
  have hkk : (k185 = 6) ∨ (k185 = 0 ∧ m185 = S.ns.length) := by
   obtain ⟨vs, _, q | q⟩ := hR185
   ·exact .inl q.1
   ·exact .inr ⟨q.1, q.2.2.2.1⟩
  rcases (show (k185 = 6) ∨ (k185 = 0 ∧ m185 = S.ns.length) from hkk) with hk6 | ⟨hk6, hkm⟩
  ·
   refine rgn 9 <| sd ww [.p, .p, .p, .p, .p, .ld (I6 k185), .as (.bool true), .p] [_, Value.bool (((k185 : Int) == 6)) = .bool true] [(53, .agg #[Sn S g60, .slice bs91 S.ns.length cp91, .slice bs133 S.ns.length cp133, .slice bs185 m185 cp185, .bool true])] [] 8 1 hS (hB236.k 0 (.c (as_eq_t (by omega)) .nil)) fun a hS => est 0 w7.heap.size 0 [Sn S g60, .slice bs91 S.ns.length cp91, .slice bs133 S.ns.length cp133, .slice bs185 m185 cp185, .bool true] hS hB230 fun a w246 hw247 hS => ?_
   have hB249 := Blk.at' hw247 (hB229.updNe (Ne.symm hn18) _ _)
   have hB250 : Blk w246 w7.heap.size 53 (#[Sn S g60, .slice bs91 S.ns.length cp91, .slice bs133 S.ns.length cp133, .slice bs185 m185 cp185, .bool true]) := hB230.up hw247
   have hB252 := OwnR.at' hw247 (hB232.updNe ((OwnR.ne_type hB232 hB230 (by decide)).symm) _ _)
   have hB253 := Blk.at' hw247 (hB233.updNe hn70 _ _)
   have hB254 := Blk.at' hw247 (hB234.updNe hn103 _ _)
   have hB255 := Blk.at' hw247 (hB235.updNe hn148 _ _)
   have hB256 := Blk.at' hw247 (hB236.updNe hn203 _ _)
   have hX257 : Ext [w7.heap.size] w226 w246 := by rw [hw247]; exact (Ext.refl _ _).updIn (.inl (by simp)) _ _
   have hG258 : Lsts w81.heap.size w246 bs91 S.ns.length cp91 L91 ls91 := hG238.extT hX257 hB230 (by decide) (by decide)
   have hG259 : wc91.heap.size ≤ w246.heap.size := Nat.le_trans hG239 hX257.size
   have hG260 : Lsts w119.heap.size w246 bs133 S.ns.length cp133 L133 ls133 := hG240.extT hX257 hB230 (by decide) (by decide)
   have hG261 : wc133.heap.size ≤ w246.heap.size := Nat.le_trans hG241 hX257.size
   have hG262 : Lsts w168.heap.size w246 bs185 m185 cp185 L185 ls185 := hG242.extT hX257 hB230 (by decide) (by decide)
   have hE263 := hE243.ui hw247 hs22
   refine sge hK245 <| sdq 51 [.p, .ld (I6 0), .p, .p, .p, .ld (I6 0), .p, .p, .p, .p, .ld (I6 0), .p, .p, .p, .p, .ld (I6 k185), .as (.bool false), .p, .p, .ld (.bool true), .p, .p, .p, .p, .p, .p, .as (.bool true), .p, .p, .p, .p, .p, .as (.bool true), .p, .p, .p, .p, .p, .as (.bool true), .p, .p, .p, .ld (.bool true), .p, .no, .no, .no, .no, .p, .p, .p] [_, _, _, _, Value.bool (((k185 : Int) == 0)) = .bool false, _, Value.bool (((↑S.ns.length : Int) == ↑S.ns.length)) = .bool true, Value.bool (((↑S.ns.length : Int) == ↑S.ns.length)) = .bool true, Value.bool (((↑S.ns.length : Int) == ↑S.ns.length)) = .bool true, _] [(16, .bool true)] [] hS (hB253.k 0 (hB254.k 0 (hB255.k 0 (hB256.k 0 (.c (as_eq_f (by omega)) (hB250.k 4 (.c (as_eq_t (rfl)) (.c (as_eq_t (rfl)) (.c (as_eq_t (rfl)) (hB250.k 4 .nil)))))))))) fun a hS => sq fun K265 hK265 => rgn 6 <| sd ww [.lds [Sn S g60, .slice bs91 S.ns.length cp91, .slice bs133 S.ns.length cp133, .slice bs185 m185 cp185, .bool true], .p, .p] [_, _, _, _, _] [(104, .agg #[Sn S g60, .slice bs91 S.ns.length cp91, .slice bs133 S.ns.length cp133, .slice bs185 m185 cp185, .bool true]), (105, .bool true), (106, .bool true)] [] 3 3 hS (hB250.k 0 (hB250.k 1 (hB250.k 2 (hB250.k 3 (hB250.k 4 .nil))))) fun a hS => est 2 w2.heap.size 0 [Sn S g60, .slice bs91 S.ns.length cp91, .slice bs133 S.ns.length cp133, .slice bs185 m185 cp185, .bool true] hS hB249 fun a w266 hw267 hS => ?_
   have hB269 : Blk w266 w2.heap.size 53 (#[Sn S g60, .slice bs91 S.ns.length cp91, .slice bs133 S.ns.length cp133, .slice bs185 m185 cp185, .bool true]) := hB249.up hw267
   have hB272 := OwnR.at' hw267 (hB252.updNe ((OwnR.ne_type hB252 hB249 (by decide)).symm) _ _)
   have hX277 : Ext [w2.heap.size] w246 w266 := by rw [hw267]; exact (Ext.refl _ _).updIn (.inl (by simp)) _ _
   have hG278 : Lsts w81.heap.size w266 bs91 S.ns.length cp91 L91 ls91 := hG258.extT hX277 hB249 (by decide) (by decide)
   have hG279 : wc91.heap.size ≤ w266.heap.size := Nat.le_trans hG259 hX277.size
   have hG280 : Lsts w119.heap.size w266 bs133 S.ns.length cp133 L133 ls133 := hG260.extT hX277 hB249 (by decide) (by decide)
   have hG281 : wc133.heap.size ≤ w266.heap.size := Nat.le_trans hG261 hX277.size
   have hG282 : Lsts w168.heap.size w266 bs185 m185 cp185 L185 ls185 := hG262.extT hX277 hB249 (by decide) (by decide)
   have hE283 := hE263.ui hw267 hs12
   refine sd ww [.p, .p] [] [(3, .bool true), (4, .bool true)] [] 6 0 hS .nil fun a hS => sge hK265 <| wpIn_ret ?_
   refine retATT hS Tryd.results27 (by kernel_rfl) (by kernel_rfl) rfl rfl rfl hB269 ?_
   exact ⟨z25, hZ25, .inr ⟨hb50, ⟨g60, bs60, bs91, cp91, L91, ls91, bs133, cp133, L133, ls133, bs185, m185, cp185, L185, ls185, true⟩, rfl, ⟨hB272, Nat.le_trans hE47.size hgn60, hD60, hG278.more hE89.size, hR91, hG280.more hE131.size, hR133, hG282.more hE183.size, ⟨k185, ka185, hR185, ⟨fun h => by omega, fun h => rfl⟩⟩, hL91.apart hL133 hG130, hL91.apart hL185 hG180, hL133.apart hL185 hG182⟩⟩, hE283⟩
  ·
   refine rgn 9 <| sd ww [.p, .p, .p, .p, .p, .ld (I6 k185), .as (.bool false), .p] [_, Value.bool (((k185 : Int) == 6)) = .bool false] [(53, .agg #[Sn S g60, .slice bs91 S.ns.length cp91, .slice bs133 S.ns.length cp133, .slice bs185 m185 cp185, .bool false])] [] 8 1 hS (hB236.k 0 (.c (as_eq_f (by omega)) .nil)) fun a hS => est 0 w7.heap.size 0 [Sn S g60, .slice bs91 S.ns.length cp91, .slice bs133 S.ns.length cp133, .slice bs185 m185 cp185, .bool false] hS hB230 fun a w284 hw285 hS => ?_
   have hB287 := Blk.at' hw285 (hB229.updNe (Ne.symm hn18) _ _)
   have hB288 : Blk w284 w7.heap.size 53 (#[Sn S g60, .slice bs91 S.ns.length cp91, .slice bs133 S.ns.length cp133, .slice bs185 m185 cp185, .bool false]) := hB230.up hw285
   have hB290 := OwnR.at' hw285 (hB232.updNe ((OwnR.ne_type hB232 hB230 (by decide)).symm) _ _)
   have hB291 := Blk.at' hw285 (hB233.updNe hn70 _ _)
   have hB292 := Blk.at' hw285 (hB234.updNe hn103 _ _)
   have hB293 := Blk.at' hw285 (hB235.updNe hn148 _ _)
   have hB294 := Blk.at' hw285 (hB236.updNe hn203 _ _)
   have hX295 : Ext [w7.heap.size] w226 w284 := by rw [hw285]; exact (Ext.refl _ _).updIn (.inl (by simp)) _ _
   have hG296 : Lsts w81.heap.size w284 bs91 S.ns.length cp91 L91 ls91 := hG238.extT hX295 hB230 (by decide) (by decide)
   have hG297 : wc91.heap.size ≤ w284.heap.size := Nat.le_trans hG239 hX295.size
   have hG298 : Lsts w119.heap.size w284 bs133 S.ns.length cp133 L133 ls133 := hG240.extT hX295 hB230 (by decide) (by decide)
   have hG299 : wc133.heap.size ≤ w284.heap.size := Nat.le_trans hG241 hX295.size
   have hG300 : Lsts w168.heap.size w284 bs185 m185 cp185 L185 ls185 := hG242.extT hX295 hB230 (by decide) (by decide)
   have hE301 := hE243.ui hw285 hs22
   refine sge hK245 <| sdq 51 [.p, .ld (I6 0), .p, .p, .p, .ld (I6 0), .p, .p, .p, .p, .ld (I6 0), .p, .p, .p, .p, .ld (I6 k185), .as (.bool true), .p, .no, .no, .p, .p, .p, .p, .p, .p, .as (.bool true), .p, .p, .p, .p, .p, .as (.bool true), .p, .p, .p, .p, .p, .as (.bool true), .p, .p, .p, .ld (.bool false), .p, .p, .p, .p, .as (.bool true), .p, .p, .p] [_, _, _, _, Value.bool (((k185 : Int) == 0)) = .bool true, Value.bool (((↑S.ns.length : Int) == ↑S.ns.length)) = .bool true, Value.bool (((↑S.ns.length : Int) == ↑S.ns.length)) = .bool true, Value.bool (((↑S.ns.length : Int) == ↑S.ns.length)) = .bool true, _, Value.bool (((↑m185 : Int) == ↑S.ns.length)) = .bool true] [(16, .bool true)] [] hS (hB291.k 0 (hB292.k 0 (hB293.k 0 (hB294.k 0 (.c (as_eq_t (by omega)) (.c (as_eq_t (rfl)) (.c (as_eq_t (rfl)) (.c (as_eq_t (rfl)) (hB288.k 4 (.c (as_eq_t (by omega)) .nil)))))))))) fun a hS => sq fun K303 hK303 => rgn 6 <| sd ww [.lds [Sn S g60, .slice bs91 S.ns.length cp91, .slice bs133 S.ns.length cp133, .slice bs185 m185 cp185, .bool false], .p, .p] [_, _, _, _, _] [(104, .agg #[Sn S g60, .slice bs91 S.ns.length cp91, .slice bs133 S.ns.length cp133, .slice bs185 m185 cp185, .bool false]), (105, .bool true), (106, .bool true)] [] 3 3 hS (hB288.k 0 (hB288.k 1 (hB288.k 2 (hB288.k 3 (hB288.k 4 .nil))))) fun a hS => est 2 w2.heap.size 0 [Sn S g60, .slice bs91 S.ns.length cp91, .slice bs133 S.ns.length cp133, .slice bs185 m185 cp185, .bool false] hS hB287 fun a w304 hw305 hS => ?_
   have hB307 : Blk w304 w2.heap.size 53 (#[Sn S g60, .slice bs91 S.ns.length cp91, .slice bs133 S.ns.length cp133, .slice bs185 m185 cp185, .bool false]) := hB287.up hw305
   have hB310 := OwnR.at' hw305 (hB290.updNe ((OwnR.ne_type hB290 hB287 (by decide)).symm) _ _)
   have hX315 : Ext [w2.heap.size] w284 w304 := by rw [hw305]; exact (Ext.refl _ _).updIn (.inl (by simp)) _ _
   have hG316 : Lsts w81.heap.size w304 bs91 S.ns.length cp91 L91 ls91 := hG296.extT hX315 hB287 (by decide) (by decide)
   have hG317 : wc91.heap.size ≤ w304.heap.size := Nat.le_trans hG297 hX315.size
   have hG318 : Lsts w119.heap.size w304 bs133 S.ns.length cp133 L133 ls133 := hG298.extT hX315 hB287 (by decide) (by decide)
   have hG319 : wc133.heap.size ≤ w304.heap.size := Nat.le_trans hG299 hX315.size
   have hG320 : Lsts w168.heap.size w304 bs185 m185 cp185 L185 ls185 := hG300.extT hX315 hB287 (by decide) (by decide)
   have hE321 := hE301.ui hw305 hs12
   refine sd ww [.p, .p] [] [(3, .bool true), (4, .bool true)] [] 6 0 hS .nil fun a hS => sge hK303 <| wpIn_ret ?_
   refine retATT hS Tryd.results27 (by kernel_rfl) (by kernel_rfl) rfl rfl rfl hB307 ?_
   exact ⟨z25, hZ25, .inr ⟨hb50, ⟨g60, bs60, bs91, cp91, L91, ls91, bs133, cp133, L133, ls133, bs185, m185, cp185, L185, ls185, false⟩, rfl, ⟨hB310, Nat.le_trans hE47.size hgn60, hD60, hG316.more hE89.size, hR91, hG318.more hE131.size, hR133, hG320.more hE183.size, ⟨k185, ka185, hR185, ⟨fun h => (by cases h), fun h => by omega⟩⟩, hL91.apart hL133 hG130, hL91.apart hL185 hG180, hL133.apart hL185 hG182⟩⟩, hE321⟩
end Go.Proofs.YtkkpghlcmcaoiaaDoor
