import Derived.Test.YtkkpghlcmcaoiaaDoorHd0
namespace Go.Proofs.YtkkpghlcmcaoiaaDoor
open Go.Vc Go.Gm
def IsSmall (S : Sp) : Prop := ∃ la na pa r0 r1 r2 r4 r5, S = sp0 la na pa r0 r1 r2 r4 r5
theorem Small_S {w : World} : Calls Tryd.prog 50 #[] w fun e w' => ∃ S, e = .returned (.agg S.ca) ∧ SpOk w' S ∧ IsSmall S ∧ Ext [] w w' := by
 refine Small_any.mono ?_
 rintro e w' ⟨la, na, pa, r0, r1, r2, r4, r5, h1, h2, h3⟩
 exact ⟨_, h1, h2.ok, ⟨la, na, pa, r0, r1, r2, r4, r5, rfl⟩, h3⟩
theorem IsSmall.len {S : Sp} (h : IsSmall S) : S.ns.length = 3 := by
 obtain ⟨la, na, pa, r0, r1, r2, r4, r5, rfl⟩ := h
 rfl
theorem FollowS {w0 w : World} {S : Sp} (hG : SpOk w0 S) (hb : Ext [] w0 w) (hT : Tab w0) (hS : IsSmall S) : Calls Tryd.prog 16 #[.agg S.ca] w fun e w' => ∃ bs cp L, e = .returned (.tuple #[.slice bs 3 cp, .agg #[I6 0, I6 0, .string ⟨#[]⟩]]) ∧ Lsts w.heap.size w' bs 3 cp L [[5], [0, 1, 3], [3]] ∧ Ext [] w w' := by
 obtain ⟨la, na, pa, r0, r1, r2, r4, r5, rfl⟩ := hS
 refine (Follow_ok hG hb ok0 hT).mono ?_
 rintro e w' ⟨bs, cp, L, ls, h1, h2, h3, h4⟩
 rw [fol0 h3] at h2
 exact ⟨bs, cp, L, h1, h2, h4⟩
theorem YieldsS {w0 w : World} {S : Sp} (hG : SpOk w0 S) (hb : Ext [] w0 w) (hS : IsSmall S) : Calls Tryd.prog 17 #[.agg S.ca] w fun e w' => ∃ bs cp L, e = .returned (.tuple #[.slice bs 3 cp, .agg #[I6 0, I6 0, .string ⟨#[]⟩]]) ∧ Lsts w.heap.size w' bs 3 cp L [[3], [], []] ∧ Ext [] w w' := by
 obtain ⟨la, na, pa, r0, r1, r2, r4, r5, rfl⟩ := hS
 refine (Yields_ok hG hb ok0).mono ?_
 rintro e w' ⟨bs, m, cp, L, ls, k, at', h1, h2, h3, h4⟩
 obtain ⟨rfl, rfl, rfl, rfl⟩ := yld0 h3
 exact ⟨bs, cp, L, h1, h2, h4⟩
theorem rdv_ofB {w : World} {b n : Nat} {cs : Array Value} {l : List Nat} (h : Blk w b 3 cs) (hc : cs.toList = ivs l) (hl : l.length = n) : RdV w 1 (Sl b n n) n (ivs l) := by
 have hs : cs.size = n * 1 := by rw [← Array.length_toList, hc, ivs_len, hl, Nat.mul_one]
 have := RdV.of_blk h hs
 rw [hc] at this
 exact this
theorem rdv_nil0 (w : World) : RdV w 1 (.slice none 0 0) 0 (ivs []) := .inl ⟨none, 0, rfl, rfl, rfl⟩
theorem RdL.of3 {w : World} {b : Nat} {u0 u1 u2 : Value} {l0 l1 l2 : List Nat} (h : Blk w b 51 #[u0, u1, u2]) (h0 : RdV w 1 u0 l0.length (ivs l0)) (h1 : RdV w 1 u1 l1.length (ivs l1)) (h2 : RdV w 1 u2 l2.length (ivs l2)) (hm : ∀ l ∈ [l0, l1, l2], l.length ≤ 1048576) : RdL w (Sl b 3 3) 3 [l0, l1, l2] := by
 refine ⟨⟨_, RdV.of_blk h rfl, rfl, fun k l hk => ?_⟩, rfl, hm⟩
 have hk3 : k < 3 := (List.getElem?_eq_some_iff.1 hk).1
 rcases lt3 hk3 with rfl | rfl | rfl
 ·simp at hk; subst hk; exact ⟨u0, rfl, h0⟩
 ·simp at hk; subst hk; exact ⟨u1, rfl, h1⟩
 ·simp at hk; subst hk; exact ⟨u2, rfl, h2⟩
set_option maxHeartbeats 1000000 in
theorem Head_any {w : World} (hT : Tab w) :
  Calls Tryd.prog 12 #[] w fun e w' => e = .returned (.bool true) ∧ Ext [] w w' := by
 refine cbd 39 [] Tryd.func12 rfl fun a hS => ?_
 have hE0 : Ext [] w w := Ext.refl _ _
 refine sq fun K1 hK1 => rgn 1 <| sg ww [.p] [] [(0, .bool false)] 1 0 hS .nil fun a hS => sge hK1 <| sq fun K2 hK2 => rgn 3 <| ecl 2 (some 6) hS Tryd.call50 #[] (Small_S) ?_
 rintro _ wS ⟨S, rfl, hG, hIs, hEcS⟩
 refine ⟨_, rfl, fun a hS => ?_⟩
 have hEq : Ext [] wS wS := Ext.refl _ _
 have hTq := hT.ext0 (hE0.trans0 hEcS)
 refine ebx 1 #[.slice none 0 0, .slice none 0 0, I6 0, .slice none 0 0] 26 (some 1) hS fun a w3 hw4 hS => ?_
 have hB5 := Blk.nw hw4
 have hs6 := hEq.size
 have hE7 := hEq.al hw4
 refine est 0 wS.heap.size 0 [S.lv, S.nv, I6 S.st, S.pv] hS hB5 fun a w8 hw9 hS => ?_
 have hB10 : Blk w8 wS.heap.size 26 (S.ca) := hB5.up hw9
 have hE11 := hE7.ui hw9 hs6
 refine sge hK2 <| sq fun K12 hK12 => rgn 8 <| sd ww [.lds [S.lv, S.nv, I6 S.st, S.pv]] [_, _, _, _] [(8, .agg S.ca)] [] 1 7 hS (hB10.k 0 (hB10.k 1 (hB10.k 2 (hB10.k 3 .nil)))) fun a hS => ecl 6 (some 9) hS Tryd.call16 #[.agg S.ca] (FollowS hG (hEq.trans0 hE11) hTq hIs) ?_
 rintro _ wc13 ⟨bs13, cp13, L13, rfl, hL13, hEc13⟩
 refine ⟨_, rfl, fun a hS => ?_⟩
 have hB14 := hB10.ext hEc13 (by simp)
 have hE15 := hE11.trans0 hEc13
 refine sd ww [.p, .p, .p] [] [(10, .slice bs13 3 cp13), (11, .agg #[I6 0, I6 0, .string ⟨#[]⟩])] [] 5 3 hS .nil fun a hS => ebx 2 #[I6 0, I6 0, .string ⟨#[]⟩] 34 (some 3) hS fun a w16 hw17 hS => ?_
 have hn18 := Nat.ne_of_lt hB14.lt
 have hB19 := Blk.at' hw17 (hB14.alloc _)
 have hX20 : Ext [] wc13 w16 := by rw [hw17]; exact (Ext.refl _ _).alloc _
 have hG21 : Lsts w8.heap.size w16 bs13 3 cp13 L13 ([[5], [0, 1, 3], [3]]) := hL13.ext0 hX20
 have hB22 := Blk.nw hw17
 have hs23 := hE15.size
 have hE24 := hE15.al hw17
 refine sd ww [.p] [] [(2, .slice bs13 3 cp13)] [] 7 1 hS .nil fun a hS => est 0 wc13.heap.size 0 [I6 0, I6 0, .string ⟨#[]⟩] hS hB22 fun a w25 hw26 hS => ?_
 have hB27 := Blk.at' hw26 (hB19.updNe (Ne.symm hn18) _ _)
 have hB28 : Blk w25 wc13.heap.size 34 (#[I6 0, I6 0, .string ⟨#[]⟩]) := hB22.up hw26
 have hX29 : Ext [wc13.heap.size] w16 w25 := by rw [hw26]; exact (Ext.refl _ _).updIn (.inl (by simp)) _ _
 have hG30 : Lsts w8.heap.size w25 bs13 3 cp13 L13 ([[5], [0, 1, 3], [3]]) := hG21.extT hX29 hB22 (by decide) (by decide)
 have hE31 := hE24.ui hw26 hs23
 refine sge hK12 <| sq fun K32 hK32 => rgn 8 <| sd ww [.lds [S.lv, S.nv, I6 S.st, S.pv]] [_, _, _, _] [(13, .agg S.ca)] [] 1 7 hS (hB27.k 0 (hB27.k 1 (hB27.k 2 (hB27.k 3 .nil)))) fun a hS => ecl 6 (some 14) hS Tryd.call17 #[.agg S.ca] (YieldsS hG (hEq.trans0 hE31) hIs) ?_
 rintro _ wc33 ⟨bs33, cp33, L33, rfl, hL33, hEc33⟩
 refine ⟨_, rfl, fun a hS => ?_⟩
 have hB35 := hB28.ext hEc33 (by simp)
 have hG36 : Lsts w8.heap.size wc33 bs13 3 cp13 L13 ([[5], [0, 1, 3], [3]]) := hG30.ext0 hEc33
 have hE37 := hE31.trans0 hEc33
 refine sd ww [.p, .p, .p] [] [(15, .slice bs33 3 cp33), (16, .agg #[I6 0, I6 0, .string ⟨#[]⟩])] [] 5 3 hS .nil fun a hS => ebx 2 #[I6 0, I6 0, .string ⟨#[]⟩] 34 (some 5) hS fun a w38 hw39 hS => ?_
 have hn41 := Nat.ne_of_lt hB35.lt
 have hB43 := Blk.at' hw39 (hB35.alloc _)
 have hX44 : Ext [] wc33 w38 := by rw [hw39]; exact (Ext.refl _ _).alloc _
 have hG45 : Lsts w8.heap.size w38 bs13 3 cp13 L13 ([[5], [0, 1, 3], [3]]) := hG36.ext0 hX44
 have hG46 : Lsts w25.heap.size w38 bs33 3 cp33 L33 ([[3], [], []]) := hL33.ext0 hX44
 have hB47 := Blk.nw hw39
 have hs48 := hE37.size
 have hE49 := hE37.al hw39
 refine sd ww [.p] [] [(4, .slice bs33 3 cp33)] [] 7 1 hS .nil fun a hS => est 0 wc33.heap.size 0 [I6 0, I6 0, .string ⟨#[]⟩] hS hB47 fun a w50 hw51 hS => ?_
 have hB53 := Blk.at' hw51 (hB43.updNe (Ne.symm hn41) _ _)
 have hB54 : Blk w50 wc33.heap.size 34 (#[I6 0, I6 0, .string ⟨#[]⟩]) := hB47.up hw51
 have hX55 : Ext [wc33.heap.size] w38 w50 := by rw [hw51]; exact (Ext.refl _ _).updIn (.inl (by simp)) _ _
 have hG56 : Lsts w8.heap.size w50 bs13 3 cp13 L13 ([[5], [0, 1, 3], [3]]) := hG45.extT hX55 hB47 (by decide) (by decide)
 have hG57 : Lsts w25.heap.size w50 bs33 3 cp33 L33 ([[3], [], []]) := hG46.extT hX55 hB47 (by decide) (by decide)
 have hE58 := hE49.ui hw51 hs48
 refine sge hK32 <| sq fun K59 hK59 => rgn 23 <| sg ww [.lds [I6 0, I6 0, .string ⟨#[]⟩], .p, .p, .p, .lds [I6 0, I6 0, .string ⟨#[]⟩], .p, .p, .p, .p, .p] [_, _, _, _, _, _] [(0, .bool false), (1, (Pv wS.heap.size)), (3, (Pv wc13.heap.size)), (2, .slice bs13 3 cp13), (5, (Pv wc33.heap.size)), (4, .slice bs33 3 cp33), (25, .bool true), (26, .slice bs13 3 cp13)] 10 13 hS (hB53.k 0 (hB53.k 1 (hB53.k 2 (hB54.k 0 (hB54.k 1 (hB54.k 2 .nil)))))) fun a hS => eff_new ww (r := 12) (cs := #[I6 5]) (T := 3) (v := Value.slice (some ⟨w50.heap.size, 0, none⟩) 1 1) (d := (some 27)) hS (by kernel_rfl) fun a w60 hw61 hS => ?_
 have hX68 : Ext [] w50 w60 := by rw [hw61]; exact (Ext.refl _ _).alloc _
 have hG69 : Lsts w8.heap.size w60 bs13 3 cp13 L13 ([[5], [0, 1, 3], [3]]) := hG56.ext0 hX68
 have hG70 : Lsts w25.heap.size w60 bs33 3 cp33 L33 ([[3], [], []]) := hG57.ext0 hX68
 have hB71 := Blk.nw hw61
 have hs72 := hE58.size
 have hE73 := hE58.al hw61
 refine eff_new ww (r := 11) (cs := #[I6 0, I6 1, I6 3]) (T := 3) (v := Value.slice (some ⟨w60.heap.size, 0, none⟩) 3 3) (d := (some 28)) hS (by kernel_rfl) fun a w74 hw75 hS => ?_
 have hB83 := Blk.at' hw75 (hB71.alloc _)
 have hX84 : Ext [] w60 w74 := by rw [hw75]; exact (Ext.refl _ _).alloc _
 have hG85 : Lsts w8.heap.size w74 bs13 3 cp13 L13 ([[5], [0, 1, 3], [3]]) := hG69.ext0 hX84
 have hG86 : Lsts w25.heap.size w74 bs33 3 cp33 L33 ([[3], [], []]) := hG70.ext0 hX84
 have hB87 := Blk.nw hw75
 have hs88 := hE73.size
 have hE89 := hE73.al hw75
 refine eff_new ww (r := 10) (cs := #[I6 3]) (T := 3) (v := Value.slice (some ⟨w74.heap.size, 0, none⟩) 1 1) (d := (some 29)) hS (by kernel_rfl) fun a w90 hw91 hS => ?_
 have hB100 := Blk.at' hw91 (hB83.alloc _)
 have hB101 := Blk.at' hw91 (hB87.alloc _)
 have hX102 : Ext [] w74 w90 := by rw [hw91]; exact (Ext.refl _ _).alloc _
 have hG103 : Lsts w8.heap.size w90 bs13 3 cp13 L13 ([[5], [0, 1, 3], [3]]) := hG85.ext0 hX102
 have hG104 : Lsts w25.heap.size w90 bs33 3 cp33 L33 ([[3], [], []]) := hG86.ext0 hX102
 have hB105 := Blk.nw hw91
 have hs106 := hE89.size
 have hE107 := hE89.al hw91
 refine eff_new ww (r := 9) (cs := #[Sl w50.heap.size 1 1, Sl w60.heap.size 3 3, Sl w74.heap.size 1 1]) (T := 51) (v := Value.slice (some ⟨w90.heap.size, 0, none⟩) 3 3) (d := (some 30)) hS (by kernel_rfl) fun a w108 hw109 hS => ?_
 have hB119 := Blk.at' hw109 (hB100.alloc _)
 have hB120 := Blk.at' hw109 (hB101.alloc _)
 have hB121 := Blk.at' hw109 (hB105.alloc _)
 have hX122 : Ext [] w90 w108 := by rw [hw109]; exact (Ext.refl _ _).alloc _
 have hG123 : Lsts w8.heap.size w108 bs13 3 cp13 L13 ([[5], [0, 1, 3], [3]]) := hG103.ext0 hX122
 have hG124 : Lsts w25.heap.size w108 bs33 3 cp33 L33 ([[3], [], []]) := hG104.ext0 hX122
 have hB125 := Blk.nw hw109
 have hs126 := hE107.size
 have hE127 := hE107.al hw109
 refine ecl 8 (some 31) hS Tryd.call26 #[.slice bs13 3 cp13, Sl w90.heap.size 3 3] (sameRows_eq (hG123.rdl (by simp)) (.of3 hB125 (rdv_ofB hB119 rfl rfl) (rdv_ofB hB120 rfl rfl) (rdv_ofB hB121 rfl rfl) (by simp)) (by omega)) ?_
 rintro _ wc128 ⟨rfl, hEc128⟩
 refine ⟨_, rfl, fun a hS => ?_⟩
 have hG136 : Lsts w8.heap.size wc128 bs13 3 cp13 L13 ([[5], [0, 1, 3], [3]]) := hG123.ext0 hEc128
 have hG137 : Lsts w25.heap.size wc128 bs33 3 cp33 L33 ([[3], [], []]) := hG124.ext0 hEc128
 have hE138 := hE127.trans0 hEc128
 refine sd ww [.p, .p, .p] [] [(33, .bool true), (34, .slice bs33 3 cp33)] [] 18 5 hS .nil fun a hS => eff_new ww (r := 4) (cs := #[I6 3]) (T := 3) (v := Value.slice (some ⟨wc128.heap.size, 0, none⟩) 1 1) (d := (some 35)) hS (by kernel_rfl) fun a w139 hw140 hS => ?_
 have hX155 : Ext [] wc128 w139 := by rw [hw140]; exact (Ext.refl _ _).alloc _
 have hG156 : Lsts w8.heap.size w139 bs13 3 cp13 L13 ([[5], [0, 1, 3], [3]]) := hG136.ext0 hX155
 have hG157 : Lsts w25.heap.size w139 bs33 3 cp33 L33 ([[3], [], []]) := hG137.ext0 hX155
 have hB158 := Blk.nw hw140
 have hs159 := hE138.size
 have hE160 := hE138.al hw140
 refine eff_new ww (r := 3) (cs := #[Sl wc128.heap.size 1 1, .slice none 0 0, .slice none 0 0]) (T := 51) (v := Value.slice (some ⟨w139.heap.size, 0, none⟩) 3 3) (d := (some 36)) hS (by kernel_rfl) fun a w161 hw162 hS => ?_
 have hB178 := Blk.at' hw162 (hB158.alloc _)
 have hX179 : Ext [] w139 w161 := by rw [hw162]; exact (Ext.refl _ _).alloc _
 have hG180 : Lsts w8.heap.size w161 bs13 3 cp13 L13 ([[5], [0, 1, 3], [3]]) := hG156.ext0 hX179
 have hG181 : Lsts w25.heap.size w161 bs33 3 cp33 L33 ([[3], [], []]) := hG157.ext0 hX179
 have hB182 := Blk.nw hw162
 have hs183 := hE160.size
 have hE184 := hE160.al hw162
 refine ecl 2 (some 37) hS Tryd.call26 #[.slice bs33 3 cp33, Sl w139.heap.size 3 3] (sameRows_eq (hG181.rdl (by simp)) (.of3 hB182 (rdv_ofB hB178 rfl rfl) (rdv_nil0 _) (rdv_nil0 _) (by simp)) (by omega)) ?_
 rintro _ wc185 ⟨rfl, hEc185⟩
 refine ⟨_, rfl, fun a hS => ?_⟩
 have hG195 : Lsts w8.heap.size wc185 bs13 3 cp13 L13 ([[5], [0, 1, 3], [3]]) := hG180.ext0 hEc185
 have hG196 : Lsts w25.heap.size wc185 bs33 3 cp33 L33 ([[3], [], []]) := hG181.ext0 hEc185
 have hE197 := hE184.trans0 hEc185
 refine sd ww [.p, .p] [] [(0, .bool true)] [] 23 0 hS .nil fun a hS => sge hK59 <| wpIn_ret ?_
 refine ret1 hS Tryd.results12 rfl ?_
 exact ⟨rfl, (hEcS.trans0 hE197)⟩
end Go.Proofs.YtkkpghlcmcaoiaaDoor
