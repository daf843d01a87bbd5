import Derived.Test.YtkkpghlcmcaoiaaDoorS31
import Derived.Test.YtkkpghlcmcaoiaaDoorKb
namespace Go.Proofs.YtkkpghlcmcaoiaaDoor
open Go.Vc Go.Gm
set_option maxHeartbeats 1000000 in
theorem rows_any {w : World} {v : Value} {n : Nat} {ls : List (List Nat)} (hv : RdL w v n ls) (hn : n ≤ 1048576) :
  Calls Tryd.prog 83 #[v] w fun e w' => ∃ bs m cp L, e = .returned (.slice bs m cp) ∧ Lsts w.heap.size w' bs m cp L ls ∧ Ext [] w w' := by
 obtain ⟨⟨vs, hrv, hvl, hat⟩, hll, hlm⟩ := hv
 refine cbd 21 [(0, v)] Tryd.func83 rfl fun a hS => ?_
 have hE0 : Ext [] w w := Ext.refl _ _
 refine sq fun K1 hK1 => rgn 1 <| sg ww [.p] [] [(0, v), (2, .slice none 0 0)] 1 0 hS .nil fun a hS => sge hK1 <| sq fun K2 hK2 => rgn 1 <| sg ww [.p] [] [(0, v), (2, .slice none 0 0), (3, .slice none 0 0)] 1 0 hS .nil fun a hS => sge hK2 <| sq fun K3 hK3 => sdq 1 [.p] [] [(4, I6 0)] [] hS .nil fun a hS => wpIn_block ?_
 refine loop_ghost (fun ((i, bs, m, cq, L) : Nat × (Option Addr) × Nat × Nat × (List Rw)) a' w' => St 21 [] [(0, v), (3, .slice bs m cq), (4, I6 i)] a' ∧ Ext [] w w' ∧ i ≤ n ∧ Lsts w.heap.size w' bs m cq L (ls.take i)) (fun ((i, bs, m, cq, L) : Nat × (Option Addr) × Nat × Nat × (List Rw)) => n - i) (0, none, 0, 0, []) ⟨hS.keepTo [0, 3, 4] (by kernel_rfl), hE0, by omega, ⟨OwnV.nil _ _ _, fun x hx => by simp [ob] at hx, Fam.nil, rfl⟩⟩ ?_
 rintro ⟨i, bs, m, cq, L⟩ a wl5 ⟨hS, hXl5, hi, hR⟩
 refine sq fun K6 hK6 => sdq 4 [.p, .p, .run (I6 n), .p] [Rv (Builtin.len_ #[37] 3 #[v]) (I6 n) wl5] [(8, .bool (decide ((↑i : Int) < ↑n)))] [] hS (.c (rlr 51 hrv) .nil) fun a hS => ?_
 refine cond_b hS rfl (fun hb8 => ?_) (fun hb8 => ?_)
 ·
  replace hb8 := of_decide_eq_true hb8
  obtain ⟨l, hl⟩ : ∃ l, ls[i]? = some l := gE
  obtain ⟨u, hu, hru⟩ := hat i l hl
  have hml := hR.len
  have hmt : m = i := by have := hml.2; simp at this; omega
  have hlm1 := hlm l (List.mem_of_getElem? hl)
  refine wpIn_skip <| hK6 _ _ <| sq fun K9 hK9 => wpIn_block <| rgn 10 <| sd ww [.p] [] [(11, .slice bs m cq)] [] 1 9 hS .nil fun a hS => eff_new ww (r := 8) (cs := #[]) (T := 3) (v := Value.slice (some ⟨wl5.heap.size, 0, none⟩) 0 0) (d := (some 12)) hS (by kernel_rfl) fun a w10 hw11 hS => ?_
  have hn12 : ∀ x ∈ ob (.slice bs m cq), wl5.heap.size ≠ x := fun x hx => Nat.ne_of_gt (hR.own.lie x hx)
  have hB13 := OwnV.at' hw11 (hR.own.alloc _)
  have hX14 : Ext [] wl5 w10 := by rw [hw11]; exact (Ext.refl _ _).alloc _
  have hG15 : Fam w10 3 1 (fun b => w.heap.size ≤ b) L := hR.fam.ext0 hX14
  have hG16 : Ext [] wl5 w10 := (Ext.refl [] wl5).trans0 hX14
  have hB17 := Blk.nw hw11
  have hs18 := hXl5.size
  have hE19 := hXl5.al hw11
  refine sd ww [.p, .p, .run ((Po (bof v) (oof v + i * 1))), .ld (u)] [Rv (Instr.indexAt 37 (v) (I6 i)) ((Po (bof v) (oof v + i * 1))) w10, w10.cell? ⟨bof v, oof v + i * 1, none⟩ = some (u)] [(16, u)] [] 6 4 hS (.c (ixr 51 i hrv) (.c ((hrv.ext0 hE19).cellAt (i * 1) (by omega) (by rw [Nat.mul_one]; exact hu)) .nil)) fun a hS => eff_append_rd ww (r := 3) (d := (some 17)) (t := 51) (ty := 51) (e := 3) (size := 1) (bytes := 8) (len := 0) (k := l.length) (z := #[I6 0]) (v := Value.slice (some ⟨wl5.heap.size, 0, none⟩) 0 0) (u := u) (xs := ([])) (news := (ivs l)) hS (by kernel_rfl) (by kernel_rfl) (by kernel_rfl) (by kernel_rfl) (OwnR.of_blk hB17 (by simp) (by decide)).v (hru.ext0 hE19) (ivs_one _) (by omega) (by omega) fun bs20 cp20 a wa20 hA20 hS => ?_
  have hEa20 : Ext [wl5.heap.size] w10 wa20 := hA20.ext
  rw [Nat.zero_add] at hS
  have hO20 : OwnV wa20 3 1 (.slice bs20 l.length cp20) l.length (ivs l) := by have h := hA20.own; simpa using h
  have hB21 := hB13.ext hEa20 (fun x hx hm => by simp at hm; exact hn12 x hx hm.symm)
  have hE22 : Ext [] w wa20 := hE19.trans hEa20 (fun b hb => by simp at hb; subst hb; exact .inr hs18)
  have hnw20 : ∀ x ∈ ob (.slice bs20 l.length cp20), w.heap.size ≤ x := fun x hx => by
   rcases hA20.fresh x (by simpa using hx) with h | h
   ·have h : x = wl5.heap.size := by simpa [ob] using h
    rw [h]; exact hs18
   ·exact Nat.le_trans hE19.size h
  have hG23 : Fam wa20 3 1 (fun b => w.heap.size ≤ b) L := hG15.ext hEa20 (fun k x hx b hb hm => by simp at hm; rw [hm] at hb; exact absurd (hR.fam.lie hx _ hb) (Nat.lt_irrefl _))
  have hG24 : Ext [] wl5 wa20 := hG16.trans hEa20 (fun b hb => by simp at hb; rw [hb]; exact .inr (Nat.le_refl _))
  have hG25 : True := trivial
  have hnr : ∀ x ∈ ob (.slice bs20 l.length cp20), wl5.heap.size ≤ x := fun x hx => by
   rcases hA20.fresh x (by simpa using hx) with h | h
   ·have h : x = wl5.heap.size := by simpa [ob] using h
    omega
   ·exact Nat.le_trans hG16.size h
  refine eff_new ww (r := 2) (cs := #[.slice bs20 l.length cp20]) (T := 51) (v := Value.slice (some ⟨wa20.heap.size, 0, none⟩) 1 1) (d := (some 18)) hS (by kernel_rfl) fun a w26 hw27 hS => ?_
  have hB30 := OwnV.at' hw27 (hB21.alloc _)
  have hB31 := OwnV.at' hw27 (hO20.alloc _)
  have hX32 : Ext [] wa20 w26 := by rw [hw27]; exact (Ext.refl _ _).alloc _
  have hG33 : Fam w26 3 1 (fun b => w.heap.size ≤ b) L := hG23.ext0 hX32
  have hB34 := Blk.nw hw27
  have hs35 := hE22.size
  have hE36 := hE22.al hw27
  refine eff_append2 ww (r := 1) (d := (some 19)) (t := 37) (ty := 37) (e := 51) (size := 1) (bytes := 24) (len := m) (b := wa20.heap.size) (off := 0) (k := 1) (c := 1) (z := #[.slice none 0 0]) (v := Value.slice bs m cq) (xs := (L.map Rw.v)) [.slice bs20 l.length cp20] hS (by kernel_rfl) (by kernel_rfl) (by kernel_rfl) (by kernel_rfl) (by kernel_rfl) hB30 (by simp) (fun j u hu => by rw [Nat.zero_add]; exact hB34.cell j (by simpa using hu)) rfl (by omega) (by omega) (by omega) fun ga37 ca37 a wa37 hOa37 hEa37 hFa37 hS => ?_
  have hB38 := hB31.ext hEa37 (hB31.disj hB30 (by decide))
  have hE40 : Ext [] w wa37 := hE36.trans hEa37 (fun b hb => .inr (hR.new b hb))
  have hG41 : Fam wa37 3 1 (fun b => w.heap.size ≤ b) L := hG33.ext hEa37 (fun k x hx b hb hm => hG33.notV hB30 (by decide) b hm (bl_mem hx b hb))
  refine sd ww [.p] [] [(3, Sl ga37 (m + 1) ca37)] [] 10 0 hS .nil fun a hS => seg_end <| inBlock_normal <| hK9 _ _ <| rgn 3 <| sd ww [.p, .as (I6 (↑i + 1)), .p] [_] [(4, I6 (↑i + 1))] [] 3 0 hS (as6 (↑i + 1)) fun a hS => seg_end ?_
  have hLn : Lsts w.heap.size wa37 (some ⟨ga37, 0, none⟩) (m + 1) ca37 (L ++ [⟨.slice bs20 l.length cp20, l.length, ivs l⟩]) (ls.take (i + 1)) := by
   refine ⟨by rw [List.map_append]; exact hOa37.v, fun x hx => ?_, Fam.snoc hG41 hB38 (fun b hb => Nat.le_trans hXl5.size (hnr b hb)) (fun k x hx b hb hm => absurd (hR.fam.lie hx b hb) (Nat.not_lt.2 (hnr b hm))), ?_⟩
   ·have hx : x = ga37 := by simpa [ob] using hx
    rw [hx]
    rcases hFa37 ga37 (by simp) with h | h
    ·exact hR.new _ h
    ·exact Nat.le_trans hE36.size h
   ·rw [List.map_append, hR.is, List.take_add_one, hl, List.map_append]
    rfl
  exact ⟨(i + 1, (some ⟨ga37, 0, none⟩), (m + 1), ca37, _), ⟨hS.kp [(0, v), (3, Sl ga37 (m + 1) ca37), (4, I6 (↑i + 1))], hE40, by omega, hLn⟩, by simp only; omega⟩
 ·
  replace hb8 := of_decide_eq_false hb8
  rw [List.take_of_length_le (by omega)] at hR
  refine xt2 <| hK3 _ _ <| sdq 2 [.p, .p] [] [(2, .slice bs m cq)] [] hS .nil fun a hS => wpIn_ret ?_
  refine ret1 hS Tryd.results83 rfl ?_
  exact ⟨_, _, _, _, rfl, hR, hXl5⟩
theorem bls_one (xs : List Bool) : oneAll (bls xs) = true := by
 induction xs with
 | nil => rfl
 | cons x xs ih => exact ih
theorem TdOk.ynm {S : Sp} {N : Nat} {w : World} {T : Td} (h : TdOk S N w T) (hnm : S.ns.length ≤ 1048576) : T.yn ≤ 1048576 := by
 have hyn := h.ly.len
 obtain ⟨k, x, ⟨vs, hv, h1 | h1⟩, _⟩ := h.isY
 ·have := h1.2.2.2.2.1; omega
 ·have := h1.2.2.2.1; omega
structure Tq where
 a0 : Option Addr
 n0 : Nat
 k0 : Nat
 a1 : Option Addr
 n1 : Nat
 k1 : Nat
 a2 : Option Addr
 n2 : Nat
 k2 : Nat
 a3 : Option Addr
 n3 : Nat
 k3 : Nat
 fu : Bool
structure Cp (S : Sp) (w : World) (T : Td) (e f g y : Value) : Prop where
 e : RdV w 1 e S.ns.length (bls T.es)
 f : RdL w f S.ns.length T.fl
 g : RdL w g S.ns.length T.wl
 y : RdL w y T.yn T.yl
theorem Cp.ext0 {S : Sp} {w w' : World} {T : Td} {e f g y : Value} (h : Cp S w T e f g y) (hE : Ext [] w w') : Cp S w' T e f g y := ⟨h.e.ext0 hE, h.f.ext0 hE, h.g.ext0 hE, h.y.ext0 hE⟩
theorem Lsts.rdn {N : Nat} {w : World} {bs : Option Addr} {n m cp : Nat} {L : List Rw} {ls : List (List Nat)} (h : Lsts N w bs m cp L ls) (hm : ∀ l ∈ ls, l.length ≤ 1048576) (hn : ls.length = n) : RdL w (.slice bs m cp) n ls := by
 have h1 := h.rdl hm
 have h2 := h.len.2
 rw [show m = n by omega] at h1 ⊢
 exact h1
set_option maxHeartbeats 1000000 in
theorem copied_any {N : Nat} {w : World} {S : Sp} {T : Td} (hTd : TdOk S N w T) (hnm : S.ns.length ≤ 1048576) :
  Calls Tryd.prog 41 #[.agg #[Sn S T.eg, .slice T.fb S.ns.length T.fc, .slice T.wb S.ns.length T.wc, .slice T.yb T.yn T.yc, .bool T.full]] w fun e w' => ∃ q : Tq, e = .returned (.agg #[.slice q.a0 q.n0 q.k0, .slice q.a1 q.n1 q.k1, .slice q.a2 q.n2 q.k2, .slice q.a3 q.n3 q.k3, .bool T.full]) ∧ Cp S w' T (.slice q.a0 q.n0 q.k0) (.slice q.a1 q.n1 q.k1) (.slice q.a2 q.n2 q.k2) (.slice q.a3 q.n3 q.k3) ∧ Ext [] w w' := by
 obtain ⟨m1, m2, m3⟩ := hTd.max
 have hym := hTd.ynm hnm
 refine cbd 26 [(0, .agg #[Sn S T.eg, .slice T.fb S.ns.length T.fc, .slice T.wb S.ns.length T.wc, .slice T.yb T.yn T.yc, .bool T.full])] Tryd.func41 rfl fun a hS => ?_
 have hE0 : Ext [] w w := Ext.refl _ _
 refine sq fun K1 hK1 => rgn 2 <| ebx 1 #[Sn S T.eg, .slice T.fb S.ns.length T.fc, .slice T.wb S.ns.length T.wc, .slice T.yb T.yn T.yc, .bool T.full] 53 (some 1) hS fun a w2 hw3 hS => ?_
 have hB4 := Blk.nw hw3
 have hs5 := hE0.size
 have hE6 := hE0.al hw3
 refine ebx 0 #[.slice none 0 0, .slice none 0 0, .slice none 0 0, .slice none 0 0, .bool false] 53 (some 2) hS fun a w7 hw8 hS => ?_
 have hB10 := Blk.at' hw8 (hB4.alloc _)
 have hB11 := Blk.nw hw8
 have hs12 := hE6.size
 have hE13 := hE6.al hw8
 refine sge hK1 <| sq fun K14 hK14 => rgn 5 <| sd ww [.p, .ld (.bool T.full), .p] [_] [(6, .agg #[.slice none 0 0, .slice none 0 0, .slice none 0 0, .slice none 0 0, .bool T.full])] [] 3 2 hS (hB10.k 4 .nil) fun a hS => ebx 1 #[.slice none 0 0, .slice none 0 0, .slice none 0 0, .slice none 0 0, .bool false] 53 (some 3) hS fun a w15 hw16 hS => ?_
 have hn17 := Nat.ne_of_lt hB10.lt
 have hn18 := Nat.ne_of_lt hB11.lt
 have hB19 := Blk.at' hw16 (hB10.alloc _)
 have hB20 := Blk.at' hw16 (hB11.alloc _)
 have hB21 := Blk.nw hw16
 have hs22 := hE13.size
 have hE23 := hE13.al hw16
 refine est 0 w7.heap.size 0 [.slice none 0 0, .slice none 0 0, .slice none 0 0, .slice none 0 0, .bool T.full] hS hB21 fun a w24 hw25 hS => ?_
 have hB26 := Blk.at' hw25 (hB19.updNe (Ne.symm hn17) _ _)
 have hB27 := Blk.at' hw25 (hB20.updNe (Ne.symm hn18) _ _)
 have hB28 : Blk w24 w7.heap.size 53 (#[.slice none 0 0, .slice none 0 0, .slice none 0 0, .slice none 0 0, .bool T.full]) := hB21.up hw25
 have hE29 := hE23.ui hw25 hs22
 refine sge hK14 <| sq fun K30 hK30 => rgn 7 <| sd ww [.p, .ld (.slice none 0 0), .p, .ld (Sn S T.eg)] [_, _] [(8, .slice none 0 0), (10, Sn S T.eg)] [] 4 3 hS (hB28.k 0 (hB26.k 0 .nil)) fun a hS => eff_append_rd ww (r := 2) (d := (some 11)) (t := 31) (ty := 31) (e := 4) (size := 1) (bytes := 1) (len := 0) (k := S.ns.length) (z := #[.bool false]) (v := Value.slice none 0 0) (u := Sn S T.eg) (xs := ([])) (news := (bls T.es)) hS (by kernel_rfl) (by kernel_rfl) (by kernel_rfl) (by kernel_rfl) (OwnV.nil _ _ _) ((hTd.ext0 hE29).re.v.rd) (bls_one _) (by omega) (by omega) fun bs31 cp31 a wa31 hA31 hS => ?_
 have hEa31 : Ext [] w24 wa31 := hA31.ext
 rw [Nat.zero_add] at hS
 have hO31 : OwnV wa31 4 1 (.slice bs31 S.ns.length cp31) S.ns.length (bls T.es) := by have h := hA31.own; simpa using h
 have hB32 := hB26.ext hEa31 (by simp)
 have hB33 := hB27.ext hEa31 (by simp)
 have hB34 := hB28.ext hEa31 (by simp)
 have hE35 : Ext [] w wa31 := hE29.trans0 hEa31
 have hnw31 : ∀ x ∈ ob (.slice bs31 S.ns.length cp31), w.heap.size ≤ x := fun x hx => by
  rcases hA31.fresh x (by simpa using hx) with h | h
  ·cases h
  ·exact Nat.le_trans hE29.size h
 have hG36 : True := trivial
 refine sd ww [.p] [] [(12, (Pv w7.heap.size))] [] 6 1 hS .nil fun a hS => est 0 w7.heap.size 0 [.slice bs31 S.ns.length cp31] hS hB34 fun a w37 hw38 hS => ?_
 have hB39 := Blk.at' hw38 (hB32.updNe (Ne.symm hn17) _ _)
 have hB40 := Blk.at' hw38 (hB33.updNe (Ne.symm hn18) _ _)
 have hB41 : Blk w37 w7.heap.size 53 (#[.slice bs31 S.ns.length cp31, .slice none 0 0, .slice none 0 0, .slice none 0 0, .bool T.full]) := hB34.up hw38
 have hB42 := OwnV.at' hw38 (hO31.updNe (OwnV.ne hO31 hB34 (by decide)) _ _)
 have hE43 := hE35.ui hw38 hs22
 refine sge hK30 <| sq fun K44 hK44 => rgn 5 <| sd ww [.p, .ld (.slice T.fb S.ns.length T.fc)] [_] [(14, .slice T.fb S.ns.length T.fc)] [] 2 3 hS (hB39.k 1 .nil) fun a hS => ecl 2 (some 15) hS Tryd.call83 #[.slice T.fb S.ns.length T.fc] (rows_any (((hTd.ext0 hE43).lf).rdl m1) (by omega)) ?_
 rintro _ wc45 ⟨bs045, m0q45, cp045, L0q45, rfl, hL0q45, hEc45⟩
 refine ⟨_, rfl, fun a hS => ?_⟩
 have hB46 := hB39.ext hEc45 (by simp)
 have hB47 := hB40.ext hEc45 (by simp)
 have hB48 := hB41.ext hEc45 (by simp)
 have hB49 := hB42.ext hEc45 (by simp)
 have hE50 := hE43.trans0 hEc45
 refine sd ww [.p] [] [(16, (Po w7.heap.size 1))] [] 4 1 hS .nil fun a hS => est 0 w7.heap.size 1 [.slice bs045 m0q45 cp045] hS hB48 fun a w51 hw52 hS => ?_
 have hB53 := Blk.at' hw52 (hB46.updNe (Ne.symm hn17) _ _)
 have hB54 := Blk.at' hw52 (hB47.updNe (Ne.symm hn18) _ _)
 have hB55 : Blk w51 w7.heap.size 53 (#[.slice bs31 S.ns.length cp31, .slice bs045 m0q45 cp045, .slice none 0 0, .slice none 0 0, .bool T.full]) := hB48.up hw52
 have hB56 := OwnV.at' hw52 (hB49.updNe (OwnV.ne hB49 hB48 (by decide)) _ _)
 have hX57 : Ext [w7.heap.size] wc45 w51 := by rw [hw52]; exact (Ext.refl _ _).updIn (.inl (by simp)) _ _
 have hG58 : Lsts w37.heap.size w51 bs045 m0q45 cp045 L0q45 T.fl := hL0q45.extT hX57 hB48 (by decide) (by decide)
 have hE59 := hE50.ui hw52 hs22
 refine sge hK44 <| sq fun K60 hK60 => rgn 5 <| sd ww [.p, .ld (.slice T.wb S.ns.length T.wc)] [_] [(18, .slice T.wb S.ns.length T.wc)] [] 2 3 hS (hB53.k 2 .nil) fun a hS => ecl 2 (some 19) hS Tryd.call83 #[.slice T.wb S.ns.length T.wc] (rows_any (((hTd.ext0 hE59).lw).rdl m2) (by omega)) ?_
 rintro _ wc61 ⟨bs161, m1q61, cp161, L1q61, rfl, hL1q61, hEc61⟩
 refine ⟨_, rfl, fun a hS => ?_⟩
 have hB62 := hB53.ext hEc61 (by simp)
 have hB63 := hB54.ext hEc61 (by simp)
 have hB64 := hB55.ext hEc61 (by simp)
 have hB65 := hB56.ext hEc61 (by simp)
 have hG66 : Lsts w37.heap.size wc61 bs045 m0q45 cp045 L0q45 T.fl := hG58.ext0 hEc61
 have hE67 := hE59.trans0 hEc61
 refine sg ww [.p] [] [(0, .agg #[Sn S T.eg, .slice T.fb S.ns.length T.fc, .slice T.wb S.ns.length T.wc, .slice T.yb T.yn T.yc, .bool T.full]), (1, (Pv w.heap.size)), (2, (Pv w2.heap.size)), (3, (Pv w7.heap.size)), (19, .slice bs161 m1q61 cp161), (20, (Po w7.heap.size 2))] 4 1 hS .nil fun a hS => est 0 w7.heap.size 2 [.slice bs161 m1q61 cp161] hS hB64 fun a w68 hw69 hS => ?_
 have hB70 := Blk.at' hw69 (hB62.updNe (Ne.symm hn17) _ _)
 have hB71 := Blk.at' hw69 (hB63.updNe (Ne.symm hn18) _ _)
 have hB72 : Blk w68 w7.heap.size 53 (#[.slice bs31 S.ns.length cp31, .slice bs045 m0q45 cp045, .slice bs161 m1q61 cp161, .slice none 0 0, .bool T.full]) := hB64.up hw69
 have hB73 := OwnV.at' hw69 (hB65.updNe (OwnV.ne hB65 hB64 (by decide)) _ _)
 have hX74 : Ext [w7.heap.size] wc61 w68 := by rw [hw69]; exact (Ext.refl _ _).updIn (.inl (by simp)) _ _
 have hG75 : Lsts w37.heap.size w68 bs045 m0q45 cp045 L0q45 T.fl := hG66.extT hX74 hB64 (by decide) (by decide)
 have hG76 : Lsts w51.heap.size w68 bs161 m1q61 cp161 L1q61 T.wl := hL1q61.extT hX74 hB64 (by decide) (by decide)
 have hE77 := hE67.ui hw69 hs22
 refine sge hK60 <| sq fun K78 hK78 => rgn 5 <| sd ww [.p, .ld (.slice T.yb T.yn T.yc)] [_] [(22, .slice T.yb T.yn T.yc)] [] 2 3 hS (hB70.k 3 .nil) fun a hS => ecl 2 (some 23) hS Tryd.call83 #[.slice T.yb T.yn T.yc] (rows_any (((hTd.ext0 hE77).ly).rdl m3) (by omega)) ?_
 rintro _ wc79 ⟨bs279, m2q79, cp279, L2q79, rfl, hL2q79, hEc79⟩
 refine ⟨_, rfl, fun a hS => ?_⟩
 have hB81 := hB71.ext hEc79 (by simp)
 have hB82 := hB72.ext hEc79 (by simp)
 have hB83 := hB73.ext hEc79 (by simp)
 have hG84 : Lsts w37.heap.size wc79 bs045 m0q45 cp045 L0q45 T.fl := hG75.ext0 hEc79
 have hG85 : Lsts w51.heap.size wc79 bs161 m1q61 cp161 L1q61 T.wl := hG76.ext0 hEc79
 have hE86 := hE77.trans0 hEc79
 refine sd ww [.p] [] [(24, (Po w7.heap.size 3))] [] 4 1 hS .nil fun a hS => est 0 w7.heap.size 3 [.slice bs279 m2q79 cp279] hS hB82 fun a w87 hw88 hS => ?_
 have hB90 := Blk.at' hw88 (hB81.updNe (Ne.symm hn18) _ _)
 have hB91 : Blk w87 w7.heap.size 53 (#[.slice bs31 S.ns.length cp31, .slice bs045 m0q45 cp045, .slice bs161 m1q61 cp161, .slice bs279 m2q79 cp279, .bool T.full]) := hB82.up hw88
 have hB92 := OwnV.at' hw88 (hB83.updNe (OwnV.ne hB83 hB82 (by decide)) _ _)
 have hX93 : Ext [w7.heap.size] wc79 w87 := by rw [hw88]; exact (Ext.refl _ _).updIn (.inl (by simp)) _ _
 have hG94 : Lsts w37.heap.size w87 bs045 m0q45 cp045 L0q45 T.fl := hG84.extT hX93 hB82 (by decide) (by decide)
 have hG95 : Lsts w51.heap.size w87 bs161 m1q61 cp161 L1q61 T.wl := hG85.extT hX93 hB82 (by decide) (by decide)
 have hG96 : Lsts w68.heap.size w87 bs279 m2q79 cp279 L2q79 T.yl := hL2q79.extT hX93 hB82 (by decide) (by decide)
 have hE97 := hE86.ui hw88 hs22
 refine sge hK78 <| sq fun K98 hK98 => rgn 2 <| sd ww [.lds [.slice bs31 S.ns.length cp31, .slice bs045 m0q45 cp045, .slice bs161 m1q61 cp161, .slice bs279 m2q79 cp279, .bool T.full]] [_, _, _, _, _] [(25, .agg #[.slice bs31 S.ns.length cp31, .slice bs045 m0q45 cp045, .slice bs161 m1q61 cp161, .slice bs279 m2q79 cp279, .bool T.full])] [] 1 1 hS (hB91.k 0 (hB91.k 1 (hB91.k 2 (hB91.k 3 (hB91.k 4 .nil))))) fun a hS => est 0 w2.heap.size 0 [.slice bs31 S.ns.length cp31, .slice bs045 m0q45 cp045, .slice bs161 m1q61 cp161, .slice bs279 m2q79 cp279, .bool T.full] hS hB90 fun a w99 hw100 hS => ?_
 have hB102 : Blk w99 w2.heap.size 53 (#[.slice bs31 S.ns.length cp31, .slice bs045 m0q45 cp045, .slice bs161 m1q61 cp161, .slice bs279 m2q79 cp279, .bool T.full]) := hB90.up hw100
 have hB104 := OwnV.at' hw100 (hB92.updNe (OwnV.ne hB92 hB90 (by decide)) _ _)
 have hX105 : Ext [w2.heap.size] w87 w99 := by rw [hw100]; exact (Ext.refl _ _).updIn (.inl (by simp)) _ _
 have hG106 : Lsts w37.heap.size w99 bs045 m0q45 cp045 L0q45 T.fl := hG94.extT hX105 hB90 (by decide) (by decide)
 have hG107 : Lsts w51.heap.size w99 bs161 m1q61 cp161 L1q61 T.wl := hG95.extT hX105 hB90 (by decide) (by decide)
 have hG108 : Lsts w68.heap.size w99 bs279 m2q79 cp279 L2q79 T.yl := hG96.extT hX105 hB90 (by decide) (by decide)
 have hE109 := hE97.ui hw100 hs12
 refine sge hK98 <| wpIn_ret ?_
 refine retA1 hS Tryd.results41 (by kernel_rfl) (by kernel_rfl) rfl hB102 ?_
 exact ⟨⟨bs31, S.ns.length, cp31, bs045, m0q45, cp045, bs161, m1q61, cp161, bs279, m2q79, cp279, false⟩, rfl, ⟨hB104.rd, hG106.rdn m1 (by rw [hTd.lf.len.2]), hG107.rdn m2 (by rw [hTd.lw.len.2]), hG108.rdn m3 (by rw [hTd.ly.len.2])⟩, hE109⟩
theorem sameTold_c {S : Sp} {N N' : Nat} {w w' : World} {T T' : Td} {e f g y : Value} (h : TdOk S N w T) (h' : TdOk S N' w' T') (hC : Cp S w T' e f g y) (hnm : S.ns.length ≤ 1048576) :
  Calls Tryd.prog 32 #[.agg (T.cells S), .agg #[e, f, g, y, .bool T'.full]] w fun e w' => e = .returned (.bool true) ∧ Ext [] w w' := by
 obtain ⟨e1, e2, e3, e4, e5, e6⟩ := h.same (fun _ => Iff.rfl) rfl rfl rfl h'
 obtain ⟨m1, m2, m3⟩ := h.max
 obtain ⟨r2, f2, w2, y2⟩ := hC
 rw [← e1] at r2
 rw [← e2] at f2
 rw [← e3] at w2
 rw [← e4, ← e5] at y2
 have := sameTold_eq T.full h.re.v.rd r2 (h.lf.rdl m1) f2 (h.lw.rdl m2) w2 (h.ly.rdl m3) y2 hnm (h.ynm hnm)
 unfold Td.cells
 rw [← e6]
 exact this
end Go.Proofs.YtkkpghlcmcaoiaaDoor
