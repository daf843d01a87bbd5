import Derived.Test.YtkkpghlcmcaoiaaDoorS51
namespace Go.Proofs.YtkkpghlcmcaoiaaDoor
open Go.Vc Go.Gm
theorem Add_no {w : World} {g cg n : Nat} {ba bb : List Bool} {bv : Value} (hg : OwnR w 4 1 g cg n (bls ba)) {m0 : Nat} (hb : RdV w 1 bv m0 (bls bb)) (hnb : ∀ x ∈ ob bv, x ∉ [g]) (hab : m0 ≤ n) (hnm : n ≤ 2000000) (hs : ∀ t, on bb t → on ba t) :
  Calls Tryd.prog 69 #[Sl g n cg, bv] w fun e w' => e = .returned (.bool false) ∧ OwnR w' 4 1 g cg n (bls ba) ∧ Ext [g] w w' := by
 refine (Add_r hg hb hnb hab hnm).mono ?_
 rintro e w' ⟨c, m, rfl, hO, hP, hE⟩
 have := hP.none hs
 subst this
 exact ⟨rfl, hP.no rfl ▸ hO, hE⟩
theorem Add_yes {w : World} {g cg n : Nat} {ba bb : List Bool} {bv : Value} (hg : OwnR w 4 1 g cg n (bls ba)) {m0 : Nat} (hb : RdV w 1 bv m0 (bls bb)) (hnb : ∀ x ∈ ob bv, x ∉ [g]) (hab : m0 ≤ n) (hnm : n ≤ 2000000) (hs : ¬∀ t, on bb t → on ba t) :
  Calls Tryd.prog 69 #[Sl g n cg, bv] w fun e w' => ∃ c, e = .returned (.bool true) ∧ OwnR w' 4 1 g cg n (bls c) ∧ OrP ba bb bb.length c true ∧ Ext [g] w w' := by
 refine (Add_r hg hb hnb hab hnm).mono ?_
 rintro e w' ⟨c, m, rfl, hO, hP, hE⟩
 have := hP.some hs
 subst this
 exact ⟨c, rfl, hO, hP, hE⟩
structure Bst (N n : Nat) (w : World) (bs : Option Addr) (m cp : Nat) (L : List (Nat × List Bool)) : Prop where
 own : OwnV w 124 1 (.slice bs m cp) m (L.map (bcl n))
 new : ∀ x ∈ ob (.slice bs m cp), N ≤ x
 sets : BsL w N n L
theorem Bst.ext0 {N n : Nat} {w w' : World} {bs : Option Addr} {m cp : Nat} {L : List (Nat × List Bool)} (h : Bst N n w bs m cp L) (hE : Ext [] w w') : Bst N n w' bs m cp L := ⟨h.own.ext hE (by simp), h.new, h.sets.ext0 hE⟩
theorem Bst.len {N n : Nat} {w : World} {bs : Option Addr} {m cp : Nat} {L : List (Nat × List Bool)} (h : Bst N n w bs m cp L) : L.length = m := by
 have := h.own.len
 simpa using this
set_option maxHeartbeats 2000000 in
theorem First_r {w0 w : World} {S : Sp} (hG : SpOk w0 S) (hb : Ext [] w0 w) (hI : Ix S) :
  Calls Tryd.prog 24 #[.agg S.ca] w fun e w' => ∃ bs m cp L, e = .returned (.slice bs m cp) ∧ Bst w.heap.size (S.lx.length + 2) w' bs m cp L ∧ L.length = S.ns.length ∧ IsF S.g S.nl (onF (L.map Prod.snd)) ∧ Ext [] w w' := by
 have hlmax := hG.lmax
 have hnmax := hG.nmax
 have hpmax := hG.pmax
 refine cbd 56 [(0, .agg S.ca)] Tryd.func24 rfl fun a hS => ?_
 have hE0 : Ext [] w w := Ext.refl _ _
 refine sq fun K1 hK1 => rgn 2 <| ebx 1 S.ca 26 (some 1) hS fun a w2 hw3 hS => ?_
 have hB4 := Blk.nw hw3
 have hs5 := hE0.size
 have hE6 := hE0.al hw3
 refine sd ww [.p] [] [(2, .slice none 0 0)] [] 2 0 hS .nil fun a hS => sge hK1 <| sq fun K7 hK7 => rgn 3 <| sd ww [.lds [S.lv, S.nv, I6 S.st, S.pv]] [_, _, _, _] [(11, .agg S.ca)] [] 1 2 hS (hB4.k 0 (hB4.k 1 (hB4.k 2 (hB4.k 3 .nil)))) fun a hS => ecl 1 (some 12) hS Tryd.call22 #[.agg S.ca] (Nullable_r hG (hb.trans0 hE6) hI) ?_
 rintro _ wc8 ⟨g8, bs8, rfl, hO8, hD8, hgn8, hEc8⟩
 refine ⟨_, rfl, fun a hS => ?_⟩
 have hB9 := hB4.ext hEc8 (by simp)
 have hE10 := hE6.trans0 hEc8
 refine sd ww [.p] [] [(3, Sn S g8)] [] 3 0 hS .nil fun a hS => sge hK7 <| sdq 1 [.p] [] [(4, .slice none 0 0)] [] hS .nil fun a hS => sq fun K12 hK12 => sdq 1 [.p] [] [(5, I6 0)] [] hS .nil fun a hS => wpIn_block ?_
 have hN0 : w.heap.size ≤ wc8.heap.size := hE10.size
 have hsN : w.heap.size < wc8.heap.size := hB9.lt
 have hgN : g8 < wc8.heap.size := hO8.lt
 have hes := hD8
 have hbl14 := (hb.trans0 hE10)
 refine loop_ghost (fun ((i, bs, m, cp, L) : Nat × (Option Addr) × Nat × Nat × (List (Nat × List Bool))) a' w' => St 56 [] [(1, (Pv w.heap.size)), (3, Sn S g8), (4, .slice bs m cp), (5, I6 i)] a' ∧ Ext [] wc8 w' ∧ i ≤ S.ns.length ∧ m = i ∧ Bst wc8.heap.size (S.lx.length + 2) w' bs m cp L ∧ (∀ x ∈ L, x.2 = List.replicate (S.lx.length + 2) false)) (fun ((i, bs, m, cp, L) : Nat × (Option Addr) × Nat × Nat × (List (Nat × List Bool))) => S.ns.length - i) (0, none, 0, 0, []) ⟨hS.keepTo [1, 3, 4, 5] (by kernel_rfl), Ext.refl _ _, by omega, rfl, ⟨OwnV.nil _ _ _, fun x hx => by simp [ob] at hx, .nil⟩, fun x hx => by cases hx⟩ ?_
 rintro ⟨i, bs, m, cp, L⟩ a wl14 ⟨hS, hXl14, hi, hmi, hT, hL0⟩
 have hB15 := hB9.ext hXl14 (by simp)
 have hB16 := hO8.ext hXl14 (by simp)
 have hLl := hT.len
 refine sq fun K17 hK17 => sdq 5 [.p, .p, .ld (S.nv), .run (I6 S.ns.length), .p] [_, Rv (Builtin.len_ #[23] 3 #[S.nv]) (I6 S.ns.length) wl14] [(17, .bool (decide ((↑i : Int) < ↑S.ns.length)))] [] hS (hB15.k 1 (.c (rlr 9 hG.names) .nil)) fun a hS => ?_
 refine cond_b hS rfl (fun hb19 => ?_) (fun hb19 => ?_)
 ·
  replace hb19 := of_decide_eq_true hb19
  refine wpIn_skip <| hK17 _ _ <| sq fun K20 hK20 => wpIn_block <| sq fun K21 hK21 => rgn 3 <| sd ww [.lds [S.lv, S.nv, I6 S.st, S.pv]] [_, _, _, _] [(20, .agg S.ca)] [] 1 2 hS (hB15.k 0 (hB15.k 1 (hB15.k 2 (hB15.k 3 .nil)))) fun a hS => ecl 1 (some 21) hS Tryd.call67 #[.agg S.ca] (none_r hG (hbl14.trans0 hXl14)) ?_
  rintro _ wc22 ⟨g22, rfl, hO22, hgn22, hEc22⟩
  refine ⟨_, rfl, fun a hS => ?_⟩
  have hB25 := hT.own.ext hEc22 (by simp)
  have hG26 : BsL wc22 wc8.heap.size (S.lx.length + 2) L := hT.sets.ext0 hEc22
  have hE27 := hXl14.trans0 hEc22
  refine sd ww [.p] [] [(6, Sl g22 (S.lx.length + 2) (S.lx.length + 2))] [] 3 0 hS .nil fun a hS => sge hK21 <| rgn 5 <| sd ww [.p, .p] [] [(22, .slice bs m cp), (23, Sl g22 (S.lx.length + 2) (S.lx.length + 2))] [] 2 3 hS .nil fun a hS => eff_new ww (r := 2) (cs := #[Sl g22 (S.lx.length + 2) (S.lx.length + 2)]) (T := 124) (v := Value.slice (some ⟨wc22.heap.size, 0, none⟩) 1 1) (d := (some 24)) hS (by kernel_rfl) fun a w28 hw29 hS => ?_
  have hB36 := OwnV.at' hw29 (hB25.alloc _)
  have hB37 := OwnR.at' hw29 (hO22.alloc _)
  have hX38 : Ext [] wc22 w28 := by rw [hw29]; exact (Ext.refl _ _).alloc _
  have hG39 : BsL w28 wc8.heap.size (S.lx.length + 2) L := hG26.ext0 hX38
  have hB40 := Blk.nw hw29
  have hs41 := hE27.size
  have hE42 := hE27.al hw29
  refine eff_append2 ww (r := 1) (d := (some 25)) (t := 47) (ty := 47) (e := 124) (size := 1) (bytes := 24) (len := m) (b := wc22.heap.size) (off := 0) (k := 1) (c := 1) (z := #[.slice none 0 0]) (v := Value.slice bs m cp) (xs := (L.map (bcl (S.lx.length + 2)))) [Sl g22 (S.lx.length + 2) (S.lx.length + 2)] hS (by kernel_rfl) (by kernel_rfl) (by kernel_rfl) (by kernel_rfl) (by kernel_rfl) hB36 (by simp) (fun j u hu => by rw [Nat.zero_add]; exact hB40.cell j (by simpa using hu)) rfl (by omega) (by omega) (by omega) fun ga43 ca43 a wa43 hOa43 hEa43 hFa43 hS => ?_
  have hB46 := hB37.ext hEa43 (fun hm => hB37.v.disj hB36 (by decide) _ (by simp [ob]) hm)
  have hE48 : Ext [] wc8 wa43 := hE42.trans hEa43 (fun b hb => .inr (hT.new b hb))
  have hG49 : BsL wa43 wc8.heap.size (S.lx.length + 2) L := hG39.extV hEa43 hB36 (by decide)
  refine sd ww [.p] [] [(4, Sl ga43 (m + 1) ca43)] [] 5 0 hS .nil fun a hS => seg_end <| inBlock_normal <| hK20 _ _ <| rgn 3 <| sd ww [.p, .as (I6 (↑i + 1)), .p] [_] [(5, I6 (↑i + 1))] [] 3 0 hS (as6 (↑i + 1)) fun a hS => seg_end ?_
  have hTn : Bst wc8.heap.size (S.lx.length + 2) wa43 (some ⟨ga43, 0, none⟩) (m + 1) ca43 (L ++ [(g22, List.replicate (S.lx.length + 2) false)]) := by
   refine ⟨by rw [List.map_append]; exact hOa43.v, fun x hx => ?_, BsL.snoc2 hG49 hB46 (Nat.le_trans hXl14.size hgn22) fun k x hx => Nat.lt_of_lt_of_le (hT.sets.lt hx) hgn22⟩
   have hx : x = ga43 := by simpa [ob] using hx
   rw [hx]
   rcases hFa43 ga43 (by simp) with h | h
   ·exact hT.new _ h
   ·exact Nat.le_trans hE42.size h
  exact ⟨(i + 1, (some ⟨ga43, 0, none⟩), (m + 1), ca43, _), ⟨hS.kp [(1, (Pv w.heap.size)), (3, Sn S g8), (4, Sl ga43 (m + 1) ca43), (5, I6 (↑i + 1))], hE48, by omega, by omega, hTn, fun x hx => by
   rcases List.mem_append.1 hx with h | h
   ·exact hL0 x h
   ·rw [List.mem_singleton.1 h]⟩, by simp only; omega⟩
 ·
  replace hb19 := of_decide_eq_false hb19
  have hEl14 : Ext [] w wl14 := hE10.trans0 hXl14
  have hmn : m = S.ns.length := by omega
  have hS0 : RfS S (L.map Prod.snd) := by
   have : L.map Prod.snd = List.replicate S.ns.length (List.replicate (S.nl + 2) false) := by
    refine List.eq_replicate_iff.2 ⟨by rw [List.length_map]; omega, fun f hf => ?_⟩
    obtain ⟨x, hx, rfl⟩ := List.mem_map.1 hf
    exact hL0 x hx
   rw [this]; exact RfS.start
  refine xt2 <| hK12 _ _ <| sq fun K50 hK50 => sdq 1 [.p] [] [(7, .bool true)] [] hS .nil fun a hS => wpIn_block ?_
  have hLl0 := hT.len
  refine loop_ghost (fun ((L1, mo) : (List (Nat × List Bool)) × Bool) a' w' => St 56 [] [(1, (Pv w.heap.size)), (3, Sn S g8), (4, .slice bs m cp), (7, .bool mo)] a' ∧ Ext [] w w' ∧ Blk w' (w.heap.size) 26 S.ca ∧ OwnR w' 4 1 g8 S.ns.length S.ns.length (bls bs8) ∧ Bst wc8.heap.size (S.lx.length + 2) w' bs m cp L1 ∧ RfS S (L1.map Prod.snd) ∧ (mo = false → ∀ j, j < S.ps.length → RfC S bs8 j (L1.map Prod.snd))) (fun ((L1, mo) : (List (Nat × List Bool)) × Bool) => 2 * muR (L1.map Prod.snd) + mo.toNat) (L, true) ⟨hS.keepTo [1, 3, 4, 7] (by kernel_rfl), hEl14, hB15, hB16, ⟨hT.own, hT.new, hT.sets⟩, hS0, fun h => by cases h⟩ ?_
  rintro ⟨L1, mo⟩ a wl52 ⟨hS, hXl52, hsb1, hge1, hT1, hS1, hc1⟩
  refine sq fun K53 hK53 => sdq 1 [.p] [] [(26, .bool mo)] [] hS .nil fun a hS => ?_
  refine cond_b hS rfl (fun hb55 => ?_) (fun hb55 => ?_)
  ·
   replace hb55 := hb55
   have hmo : mo = true := hb55
   refine wpIn_skip <| hK53 _ _ <| wpIn_block <| sdq 1 [.p] [] [(7, .bool false)] [] hS .nil fun a hS => sdq 1 [.p] [] [(8, I6 0)] [] hS .nil fun a hS => wpIn_block ?_
   refine loop_ghost (fun ((i, L2, gr) : Nat × (List (Nat × List Bool)) × Bool) a' w' => St 56 [] [(1, (Pv w.heap.size)), (3, Sn S g8), (4, .slice bs m cp), (7, .bool gr), (8, I6 i)] a' ∧ Ext [] w w' ∧ Blk w' (w.heap.size) 26 S.ca ∧ OwnR w' 4 1 g8 S.ns.length S.ns.length (bls bs8) ∧ Bst wc8.heap.size (S.lx.length + 2) w' bs m cp L2 ∧ i ≤ S.ps.length ∧ RfP S bs8 i (L1.map Prod.snd) (L2.map Prod.snd) gr) (fun ((i, L2, gr) : Nat × (List (Nat × List Bool)) × Bool) => S.ps.length - i) (0, L1, false) ⟨hS.keepTo [1, 3, 4, 7, 8] (by kernel_rfl), hXl52, hsb1, hge1, ⟨hT1.own, hT1.new, hT1.sets⟩, by omega, .start hS1⟩ ?_
   rintro ⟨i, L2, gr⟩ a wl58 ⟨hS, hXl58, hsb2, hge2, hT2, hi, hP⟩
   refine sq fun K59 hK59 => sdq 5 [.p, .p, .ld (S.pv), .run (I6 S.ps.length), .p] [_, Rv (Builtin.len_ #[24] 3 #[S.pv]) (I6 S.ps.length) wl58] [(31, .bool (decide ((↑i : Int) < ↑S.ps.length)))] [] hS (hsb2.k 3 (.c (rlr 73 hG.prods) .nil)) fun a hS => ?_
   refine cond_b hS rfl (fun hb61 => ?_) (fun hb61 => ?_)
   ·
    replace hb61 := of_decide_eq_true hb61
    obtain ⟨p, hpi⟩ : ∃ p, S.ps[i]? = some p := gE
    have hpm := List.mem_of_getElem? hpi
    have hrm := hG.rmax p hpm
    have hpl := hI.pl hpm
    have hLl := hT2.len
    obtain ⟨fx, hfx⟩ : ∃ fx, L2[p.l.toNat]? = some fx := gE
    have hfl := hT2.sets.len hfx
    refine wpIn_skip <| hK59 _ _ <| sq fun K62 hK62 => wpIn_block <| sq fun K63 hK63 => rgn 7 <| sd ww [.p, .ld (S.pv), .p, .run ((Po (bof S.pv) (oof S.pv + i * 2))), .lds [I6 p.l, p.rv]] [_, Rv (Instr.indexAt 24 (S.pv) (I6 i)) ((Po (bof S.pv) (oof S.pv + i * 2))) wl58, wl58.cell? ⟨bof S.pv, oof S.pv + i * 2, none⟩ = some (I6 p.l), wl58.cell? ⟨bof S.pv, oof S.pv + i * 2 + 1, none⟩ = some (p.rv)] [(38, .agg #[I6 p.l, p.rv])] [] 5 2 hS (hsb2.k 3 (.c (ixr 73 i hG.prods) (.c ((hG.prods.ext0 (hb.trans0 hXl58)).cellAt (i * 2 + 0) (by omega) (pcells_at S.ps i 0 p hpi (by omega))) (.c ((hG.prods.ext0 (hb.trans0 hXl58)).cellAt (i * 2 + 1) (by omega) (pcells_at S.ps i 1 p hpi (by omega))) .nil)))) fun a hS => ebx 1 #[I6 0, .slice none 0 0] 73 (some 9) hS fun a w64 hw65 hS => ?_
    have hn66 := Nat.ne_of_lt hsb2.lt
    have hn67 := Nat.ne_of_lt hge2.lt
    have hn68 : ∀ x ∈ ob (.slice bs m cp), wl58.heap.size ≠ x := fun x hx => Nat.ne_of_gt (hT2.own.lie x hx)
    have hB69 := Blk.at' hw65 (hsb2.alloc _)
    have hB70 := OwnR.at' hw65 (hge2.alloc _)
    have hB71 := OwnV.at' hw65 (hT2.own.alloc _)
    have hX72 : Ext [] wl58 w64 := by rw [hw65]; exact (Ext.refl _ _).alloc _
    have hG73 : BsL w64 wc8.heap.size (S.lx.length + 2) L2 := hT2.sets.ext0 hX72
    have hB74 := Blk.nw hw65
    have hs75 := hXl58.size
    have hE76 := hXl58.al hw65
    refine est 0 wl58.heap.size 0 [I6 p.l, p.rv] hS hB74 fun a w77 hw78 hS => ?_
    have hB79 := Blk.at' hw78 (hB69.updNe (Ne.symm hn66) _ _)
    have hB80 := OwnR.at' hw78 (hB70.updNe (Ne.symm hn67) _ _)
    have hB81 := OwnV.at' hw78 (hB71.updNe hn68 _ _)
    have hB82 : Blk w77 wl58.heap.size 73 (#[I6 p.l, p.rv]) := hB74.up hw78
    have hX83 : Ext [wl58.heap.size] w64 w77 := by rw [hw78]; exact (Ext.refl _ _).updIn (.inl (by simp)) _ _
    have hG84 : BsL w77 wc8.heap.size (S.lx.length + 2) L2 := hG73.extT hX83 hB74 (by decide)
    have hE85 := hE76.ui hw78 hs75
    refine sge hK63 <| sq fun K86 hK86 => rgn 7 <| sd ww [.lds [S.lv, S.nv, I6 S.st, S.pv], .p, .ld (p.rv), .p, .p] [_, _, _, _, _] [(39, .agg S.ca), (41, p.rv), (42, .slice bs m cp), (43, Sn S g8)] [] 5 2 hS (hB79.k 0 (hB79.k 1 (hB79.k 2 (hB79.k 3 (hB82.k 1 .nil))))) fun a hS => ecl 1 (some 44) hS Tryd.call68 #[.agg S.ca, p.rv, .slice none 0 0, .slice bs m cp, Sn S g8] (heads_r (hG.ext0 (hb.trans0 hE85)) (Ext.refl [] _) ((hG.right p hpm).ext0 (hb.trans0 hE85)) hrm (hI.right p hpm) (nv := .slice none 0 0) (nx := []) (.inl ⟨_, _, rfl, rfl, rfl⟩) (fun x hx => by simp [ob] at hx) (Nat.zero_le _) (hB81).rd hG84 (by omega) (hB80).v.rd hes.len) ?_
    rintro _ wc87 ⟨g87, o87, rfl, hO87, hR87, hgn87, hEc87⟩
    refine ⟨_, rfl, fun a hS => ?_⟩
    have hB88 := hB79.ext hEc87 (by simp)
    have hB89 := hB80.ext hEc87 (by simp)
    have hB90 := hB81.ext hEc87 (by simp)
    have hB91 := hB82.ext hEc87 (by simp)
    have hG92 : BsL wc87 wc8.heap.size (S.lx.length + 2) L2 := hG84.ext0 hEc87
    have hE93 := hE85.trans0 hEc87
    refine sd ww [.p] [] [(10, Sl g87 (S.lx.length + 2) (S.lx.length + 2))] [] 7 0 hS .nil fun a hS => sge hK86 ?_
    have hsx := hG92
    have hox := hsx.rows _ fx hfx
    have hxn : w.heap.size ≤ fx.1 := Nat.le_trans hN0 (hsx.ge _ fx hfx)
    have hxg : fx.1 ≠ g87 := Nat.ne_of_lt (Nat.lt_of_lt_of_le (hG84.lt hfx) hgn87)
    have hxe : fx.1 ≠ g8 := Nat.ne_of_gt (Nat.lt_of_lt_of_le hgN (hsx.ge _ fx hfx))
    have hHl := hR87.len
    rw [show S.nl = S.lx.length from rfl] at hHl
    rcases (show (∀ t, on o87 t → on fx.2 t) ∨ (¬∀ t, on o87 t → on fx.2 t) from Classical.em _) with h8 | h8
    ·
     refine rgn 11 <| sd ww [.p, .p, .ld (I6 p.l), .run ((Po (bof (.slice bs m cp)) (0 + p.l.toNat * 1))), .ld (Sl fx.1 (S.lx.length + 2) (S.lx.length + 2)), .p] [_, Rv (Instr.indexAt 47 (.slice bs m cp) (I6 p.l)) ((Po (bof (.slice bs m cp)) (0 + p.l.toNat * 1))) wc87, wc87.cell? ⟨bof (.slice bs m cp), 0 + p.l.toNat * 1, none⟩ = some (Sl fx.1 (S.lx.length + 2) (S.lx.length + 2))] [(49, Sl fx.1 (S.lx.length + 2) (S.lx.length + 2)), (50, Sl g87 (S.lx.length + 2) (S.lx.length + 2))] [] 6 5 hS (hB91.k 0 (.c (ix_own (j := p.l.toNat) (hB90) (by kernel_rfl) (by kernel_rfl) (Int.toNat_of_nonneg (by omega)).symm (by omega)) (.c (OwnV.cellAt hB90 _ (by rw [Nat.zero_add]; exact bcl_at hfx)) .nil))) fun a hS => ecl 4 (some 51) hS Tryd.call69 #[Sl fx.1 (S.lx.length + 2) (S.lx.length + 2), Sl g87 (S.lx.length + 2) (S.lx.length + 2)] (Add_no hox (m0 := (S.lx.length + 2)) (hO87).v.rd (by simp [ob]; exact Ne.symm hxg) (Nat.le_refl _) (by omega) h8) ?_
     rintro _ wc94 ⟨rfl, hO94, hEc94⟩
     refine ⟨_, rfl, fun a hS => ?_⟩
     have hB95 := hB88.ext hEc94 (by simpa using (OwnR.ne_type hox hB88 (by decide)).symm)
     have hB96 := hB89.ext hEc94 (by simpa using (Ne.symm hxe))
     have hB97 := hB90.ext hEc94 (fun x hx hm => by simp at hm; exact (OwnV.neR hB90 hox (by decide)) x hx hm.symm)
     have hE100 := hE93.t1 hEc94 hxn
     refine sd ww [.p, .p, .p, .p] [] [] [] 11 0 hS .nil fun a hS => seg_end <| inBlock_normal <| hK62 _ _ <| rgn 3 <| sg ww [.p, .as (I6 (↑i + 1)), .p] [_] [(1, (Pv w.heap.size)), (3, Sn S g8), (4, .slice bs m cp), (7, .bool gr), (8, I6 (↑i + 1)), (31, .bool (decide ((↑i : Int) < ↑S.ps.length))), (9, (Pv wl58.heap.size)), (10, Sl g87 (S.lx.length + 2) (S.lx.length + 2))] 3 0 hS (as6 (↑i + 1)) fun a hS => seg_end ?_
     have hsn := hsx.keep hfx hEc94 hO94
     exact ⟨(i + 1, L2, gr), ⟨hS.kp [(1, (Pv w.heap.size)), (3, Sn S g8), (4, .slice bs m cp), (7, .bool gr), (8, I6 (↑i + 1))], hE100, hB95, hB96, ⟨hB97, hT2.new, hsn⟩, by omega, hP.skip (RfC.of hP.snd hpi (snd_at hfx) hR87 (OrP.refl h8))⟩, by simp only; omega⟩
    ·
     refine rgn 11 <| sd ww [.p, .p, .ld (I6 p.l), .run ((Po (bof (.slice bs m cp)) (0 + p.l.toNat * 1))), .ld (Sl fx.1 (S.lx.length + 2) (S.lx.length + 2)), .p] [_, Rv (Instr.indexAt 47 (.slice bs m cp) (I6 p.l)) ((Po (bof (.slice bs m cp)) (0 + p.l.toNat * 1))) wc87, wc87.cell? ⟨bof (.slice bs m cp), 0 + p.l.toNat * 1, none⟩ = some (Sl fx.1 (S.lx.length + 2) (S.lx.length + 2))] [(49, Sl fx.1 (S.lx.length + 2) (S.lx.length + 2)), (50, Sl g87 (S.lx.length + 2) (S.lx.length + 2))] [] 6 5 hS (hB91.k 0 (.c (ix_own (j := p.l.toNat) (hB90) (by kernel_rfl) (by kernel_rfl) (Int.toNat_of_nonneg (by omega)).symm (by omega)) (.c (OwnV.cellAt hB90 _ (by rw [Nat.zero_add]; exact bcl_at hfx)) .nil))) fun a hS => ecl 4 (some 51) hS Tryd.call69 #[Sl fx.1 (S.lx.length + 2) (S.lx.length + 2), Sl g87 (S.lx.length + 2) (S.lx.length + 2)] (Add_yes hox (m0 := (S.lx.length + 2)) (hO87).v.rd (by simp [ob]; exact Ne.symm hxg) (Nat.le_refl _) (by omega) h8) ?_
     rintro _ wc101 ⟨c101, rfl, hO101, hA101, hEc101⟩
     refine ⟨_, rfl, fun a hS => ?_⟩
     have hB102 := hB88.ext hEc101 (by simpa using (OwnR.ne_type hox hB88 (by decide)).symm)
     have hB103 := hB89.ext hEc101 (by simpa using (Ne.symm hxe))
     have hB104 := hB90.ext hEc101 (fun x hx hm => by simp at hm; exact (OwnV.neR hB90 hox (by decide)) x hx hm.symm)
     have hE107 := hE93.t1 hEc101 hxn
     refine sd ww [.p, .no, .p, .p] [] [(7, .bool true)] [] 11 0 hS .nil fun a hS => seg_end <| inBlock_normal <| hK62 _ _ <| rgn 3 <| sg ww [.p, .as (I6 (↑i + 1)), .p] [_] [(1, (Pv w.heap.size)), (3, Sn S g8), (4, .slice bs m cp), (7, .bool true), (8, I6 (↑i + 1)), (31, .bool (decide ((↑i : Int) < ↑S.ps.length))), (9, (Pv wl58.heap.size)), (10, Sl g87 (S.lx.length + 2) (S.lx.length + 2))] 3 0 hS (as6 (↑i + 1)) fun a hS => seg_end ?_
     have hsn := hsx.set hfx hEc101 hO101
     have hS2 := hP.snd.set hes hpm (snd_at hfx) hR87 hA101
     have hmu := muR_set (snd_at hfx) (hA101.yes rfl)
     rw [← snd_set (x := fx)] at hS2 hmu
     exact ⟨(i + 1, _, true), ⟨hS.kp [(1, (Pv w.heap.size)), (3, Sn S g8), (4, .slice bs m cp), (7, .bool true), (8, I6 (↑i + 1))], hE107, hB102, hB103, ⟨by rw [bcl_set hfx]; exact hB104, hT2.new, hsn⟩, by omega, hP.set hS2 hmu⟩, by simp only; omega⟩
   ·
    replace hb61 := of_decide_eq_false hb61
    have hie : i = S.ps.length := by omega
    rw [hie] at hP
    refine xt2 <| inBlock_normal ?_
    exact ⟨(L2, gr), ⟨hS.kp [(1, (Pv w.heap.size)), (3, Sn S g8), (4, .slice bs m cp), (7, .bool gr)], hXl58, hsb2, hge2, ⟨hT2.own, hT2.new, hT2.sets⟩, hP.snd, fun h => (hP.cl h).2⟩, (show 2 * muR (L2.map Prod.snd) + gr.toNat < 2 * muR (L1.map Prod.snd) + mo.toNat from by rw [hmo]; exact hP.more)⟩
  ·
   replace hb55 := hb55
   have hmo : mo = false := by simpa using hb55
   refine xt2 <| hK50 _ _ <| sdq 2 [.p, .p] [] [(2, .slice bs m cp)] [] hS .nil fun a hS => wpIn_ret ?_
   refine ret1 hS Tryd.results24 rfl ?_
   exact ⟨_, _, _, _, rfl, ⟨hT1.own, fun x hx => Nat.le_trans hN0 (hT1.new x hx), ⟨(hT1.sets).rows, fun k x hx => Nat.le_trans hN0 (hT1.sets.ge k x hx), hT1.sets.dj⟩⟩, by rw [hT1.len]; exact hmn, RfS.isF hes hS1 (hc1 hmo), hXl52⟩
end Go.Proofs.YtkkpghlcmcaoiaaDoor
