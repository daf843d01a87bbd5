import Derived.Test.YtkkpghlcmcaoiaaDoorS53
import Derived.Test.YtkkpghlcmcaoiaaDoorRo
namespace Go.Proofs.YtkkpghlcmcaoiaaDoor
open Go.Vc Go.Gm
theorem Bst.more {N N' n : Nat} {w : World} {bs : Option Addr} {m cp : Nat} {L : List (Nat × List Bool)} (h : Bst N n w bs m cp L) (hN : N' ≤ N) : Bst N' n w bs m cp L := ⟨h.own, fun x hx => Nat.le_trans hN (h.new x hx), ⟨h.sets.rows, fun k x hx => Nat.le_trans hN (h.sets.ge k x hx), h.sets.dj⟩⟩
set_option maxHeartbeats 2000000 in
theorem Follow_r {w0 w : World} {S : Sp} (hG : SpOk w0 S) (hb : Ext [] w0 w) (hI : Ix S) :
  Calls Tryd.prog 25 #[.agg S.ca] w fun e w' => ∃ bs m cp L, e = .returned (.slice bs m cp) ∧ Bst w.heap.size (S.lx.length + 2) w' bs m cp L ∧ L.length = S.ns.length ∧ IsO S.g S.nl S.st.toNat (onF (L.map Prod.snd)) ∧ Ext [] w w' := by
 have hlmax := hG.lmax
 have hnmax := hG.nmax
 have hpmax := hG.pmax
 have hst := hI.st
 refine cbd 96 [(0, .agg S.ca)] Tryd.func25 rfl fun a hS => ?_
 have hE0 : Ext [] w w := Ext.refl _ _
 refine sq fun K1 hK1 => rgn 2 <| ebx 1 S.ca 26 (some 1) hS fun a w2 hw3 hS => ?_
 have hB4 := Blk.nw hw3
 have hs5 := hE0.size
 have hE6 := hE0.al hw3
 refine sd ww [.p] [] [(2, .slice none 0 0)] [] 2 0 hS .nil fun a hS => sge hK1 <| sq fun K7 hK7 => rgn 3 <| sd ww [.lds [S.lv, S.nv, I6 S.st, S.pv]] [_, _, _, _] [(13, .agg S.ca)] [] 1 2 hS (hB4.k 0 (hB4.k 1 (hB4.k 2 (hB4.k 3 .nil)))) fun a hS => ecl 1 (some 14) hS Tryd.call22 #[.agg S.ca] (Nullable_n hG (hb.trans0 hE6) hI) ?_
 rintro _ wc8 ⟨ge8, E8, rfl, hE8, hEc8⟩
 refine ⟨_, rfl, fun a hS => ?_⟩
 have hB9 := hB4.ext hEc8 (by simp)
 have hE10 := hE6.trans0 hEc8
 refine sd ww [.p] [] [(3, Sn S ge8)] [] 3 0 hS .nil fun a hS => sge hK7 <| sq fun K11 hK11 => rgn 3 <| sd ww [.lds [S.lv, S.nv, I6 S.st, S.pv]] [_, _, _, _] [(15, .agg S.ca)] [] 1 2 hS (hB9.k 0 (hB9.k 1 (hB9.k 2 (hB9.k 3 .nil)))) fun a hS => ecl 1 (some 16) hS Tryd.call24 #[.agg S.ca] (First_n hG (hb.trans0 hE10) hI) ?_
 rintro _ wc12 ⟨b012, m012, c012, L012, rfl, hT12, hLl12, hIF12, hEc12⟩
 refine ⟨_, rfl, fun a hS => ?_⟩
 have hB13 := hB9.ext hEc12 (by simp)
 have hG14 : NuE S wc12 ge8 E8 := hE8.ext0 hEc12
 have hE15 := hE10.trans0 hEc12
 refine sd ww [.p] [] [(4, .slice b012 m012 c012)] [] 3 0 hS .nil fun a hS => sge hK11 <| sdq 1 [.p] [] [(5, .slice none 0 0)] [] hS .nil fun a hS => sq fun K17 hK17 => sq fun K18 hK18 => rgn 1 <| sg ww [.p] [] [(0, .agg S.ca), (1, (Pv w.heap.size)), (2, .slice none 0 0), (3, Sn S ge8), (4, .slice b012 m012 c012), (5, .slice none 0 0), (6, I6 0)] 1 0 hS .nil fun a hS => sge hK18 <| wpIn_block ?_
 have hN0 : w.heap.size ≤ wc12.heap.size := hE15.size
 have hbr19 : Ext [] w0 wc12 := (hb.trans0 hE15)
 have hEr19 : Ext [] wc12 wc12 := Ext.refl _ _
 have hsN : w.heap.size < wc12.heap.size := hB13.lt
 have hbl20 : Ext [] w0 wc12 := (hbr19.trans0 hEr19)
 refine loop_ghost (fun ((i, bs, m, cp, L) : Nat × (Option Addr) × Nat × Nat × (List (Nat × List Bool))) a' w' => St 96 [] [(1, (Pv w.heap.size)), (3, Sn S ge8), (4, .slice b012 m012 c012), (5, .slice bs m cp), (6, I6 i)] a' ∧ Ext [] wc12 w' ∧ i ≤ S.ns.length ∧ m = i ∧ Bst wc12.heap.size (S.lx.length + 2) w' bs m cp L ∧ (∀ x ∈ L, x.2 = List.replicate (S.lx.length + 2) false)) (fun ((i, bs, m, cp, L) : Nat × (Option Addr) × Nat × Nat × (List (Nat × List Bool))) => S.ns.length - i) (0, none, 0, 0, []) ⟨hS.keepTo [1, 3, 4, 5, 6] (by kernel_rfl), Ext.refl _ _, by omega, rfl, ⟨OwnV.nil _ _ _, fun x hx => by simp [ob] at hx, .nil⟩, fun x hx => by cases hx⟩ ?_
 rintro ⟨i, bs, m, cp, L⟩ a wl20 ⟨hS, hXl20, hi, hmi, hT, hL0⟩
 have hB21 := hB13.ext hXl20 (by simp)
 have hLl := hT.len
 refine sq fun K22 hK22 => sdq 5 [.p, .p, .ld (S.nv), .run (I6 S.ns.length), .p] [_, Rv (Builtin.len_ #[23] 3 #[S.nv]) (I6 S.ns.length) wl20] [(21, .bool (decide ((↑i : Int) < ↑S.ns.length)))] [] hS (hB21.k 1 (.c (rlr 9 hG.names) .nil)) fun a hS => ?_
 refine cond_b hS rfl (fun hb24 => ?_) (fun hb24 => ?_)
 ·
  replace hb24 := of_decide_eq_true hb24
  refine wpIn_skip <| hK22 _ _ <| sq fun K25 hK25 => wpIn_block <| sq fun K26 hK26 => rgn 3 <| sd ww [.lds [S.lv, S.nv, I6 S.st, S.pv]] [_, _, _, _] [(24, .agg S.ca)] [] 1 2 hS (hB21.k 0 (hB21.k 1 (hB21.k 2 (hB21.k 3 .nil)))) fun a hS => ecl 1 (some 25) hS Tryd.call67 #[.agg S.ca] (none_r hG (hbl20.trans0 hXl20)) ?_
  rintro _ wc27 ⟨g27, rfl, hO27, hgn27, hEc27⟩
  refine ⟨_, rfl, fun a hS => ?_⟩
  have hB29 := hT.own.ext hEc27 (by simp)
  have hG30 : BsL wc27 wc12.heap.size (S.lx.length + 2) L := hT.sets.ext0 hEc27
  have hE31 := hXl20.trans0 hEc27
  refine sd ww [.p] [] [(7, Sl g27 (S.lx.length + 2) (S.lx.length + 2))] [] 3 0 hS .nil fun a hS => sge hK26 <| rgn 5 <| sd ww [.p, .p] [] [(26, .slice bs m cp), (27, Sl g27 (S.lx.length + 2) (S.lx.length + 2))] [] 2 3 hS .nil fun a hS => eff_new ww (r := 2) (cs := #[Sl g27 (S.lx.length + 2) (S.lx.length + 2)]) (T := 124) (v := Value.slice (some ⟨wc27.heap.size, 0, none⟩) 1 1) (d := (some 28)) hS (by kernel_rfl) fun a w32 hw33 hS => ?_
  have hB38 := OwnV.at' hw33 (hB29.alloc _)
  have hB39 := OwnR.at' hw33 (hO27.alloc _)
  have hX40 : Ext [] wc27 w32 := by rw [hw33]; exact (Ext.refl _ _).alloc _
  have hG41 : BsL w32 wc12.heap.size (S.lx.length + 2) L := hG30.ext0 hX40
  have hB42 := Blk.nw hw33
  have hs43 := hE31.size
  have hE44 := hE31.al hw33
  refine eff_append2 ww (r := 1) (d := (some 29)) (t := 47) (ty := 47) (e := 124) (size := 1) (bytes := 24) (len := m) (b := wc27.heap.size) (off := 0) (k := 1) (c := 1) (z := #[.slice none 0 0]) (v := Value.slice bs m cp) (xs := (L.map (bcl (S.lx.length + 2)))) [Sl g27 (S.lx.length + 2) (S.lx.length + 2)] hS (by kernel_rfl) (by kernel_rfl) (by kernel_rfl) (by kernel_rfl) (by kernel_rfl) hB38 (by simp) (fun j u hu => by rw [Nat.zero_add]; exact hB42.cell j (by simpa using hu)) rfl (by omega) (by omega) (by omega) fun ga45 ca45 a wa45 hOa45 hEa45 hFa45 hS => ?_
  have hB47 := hB39.ext hEa45 (fun hm => hB39.v.disj hB38 (by decide) _ (by simp [ob]) hm)
  have hE49 : Ext [] wc12 wa45 := hE44.trans hEa45 (fun b hb => .inr (hT.new b hb))
  have hG50 : BsL wa45 wc12.heap.size (S.lx.length + 2) L := hG41.extV hEa45 hB38 (by decide)
  refine sd ww [.p] [] [(5, Sl ga45 (m + 1) ca45)] [] 5 0 hS .nil fun a hS => seg_end <| inBlock_normal <| hK25 _ _ <| rgn 3 <| sd ww [.p, .as (I6 (↑i + 1)), .p] [_] [(6, I6 (↑i + 1))] [] 3 0 hS (as6 (↑i + 1)) fun a hS => seg_end ?_
  have hTn : Bst wc12.heap.size (S.lx.length + 2) wa45 (some ⟨ga45, 0, none⟩) (m + 1) ca45 (L ++ [(g27, List.replicate (S.lx.length + 2) false)]) := by
   refine ⟨by rw [List.map_append]; exact hOa45.v, fun x hx => ?_, BsL.snoc2 hG50 hB47 (Nat.le_trans hXl20.size hgn27) fun k x hx => Nat.lt_of_lt_of_le (hT.sets.lt hx) hgn27⟩
   have hx : x = ga45 := by simpa [ob] using hx
   rw [hx]
   rcases hFa45 ga45 (by simp) with h | h
   ·exact hT.new _ h
   ·exact Nat.le_trans hE44.size h
  exact ⟨(i + 1, (some ⟨ga45, 0, none⟩), (m + 1), ca45, _), ⟨hS.kp [(1, (Pv w.heap.size)), (3, Sn S ge8), (4, .slice b012 m012 c012), (5, Sl ga45 (m + 1) ca45), (6, I6 (↑i + 1))], hE49, by omega, by omega, hTn, fun x hx => by
   rcases List.mem_append.1 hx with h | h
   ·exact hL0 x h
   ·rw [List.mem_singleton.1 h]⟩, by simp only; omega⟩
 ·
  replace hb24 := of_decide_eq_false hb24
  have hEl20 : Ext [] wc12 wl20 := hEr19.trans0 hXl20
  have hmn : m = S.ns.length := by omega
  have hLr : L.map Prod.snd = List.replicate S.ns.length (List.replicate (S.nl + 2) false) := by
   refine List.eq_replicate_iff.2 ⟨by rw [List.length_map]; omega, fun f hf => ?_⟩
   obtain ⟨x, hx, rfl⟩ := List.mem_map.1 hf
   exact hL0 x hx
  refine xt2 <| hK17 _ _ <| sq fun K51 hK51 => ?_
  obtain ⟨fx, hfx⟩ : ∃ fx, L[S.st.toNat]? = some fx := gE
  have hsx := hT.sets
  have hox := hsx.rows _ fx hfx
  have hxn : wc12.heap.size ≤ fx.1 := hsx.ge _ fx hfx
  have hfl := hsx.len hfx
  have hbm : (bls fx.2).length = (S.lx.length + 2) := by rw [bls_len]; exact hfl
  have hf0 := hL0 fx (List.mem_of_getElem? hfx)
  refine gh3 (G := World) [.q .p, .q .p, .q (.ld (I6 S.st)), .q (.run ((Po (bof (.slice bs m cp)) (0 + S.st.toNat * 1)))), .q (.ld (Sl fx.1 (S.lx.length + 2) (S.lx.length + 2))), .q .p, .q (.ld (S.lv)), .q (.run (I6 S.lx.length)), .q (.as (I6 ((S.lx.length + 1 : Nat) : Int))), .q (.run ((Po fx.1 (0 + (S.lx.length + 1) * 1)))), .e] [0, 0, 0, 0, 0, 0, 0, 0, 0, 0, 0] [0, 0, 0, 0, 0, 0, 0, 0, 0, 0, 0] [0, 0, 2, 7, 15, 0, 32, 96, 224, 511, 1023] [10] [(10, 0)] 1 (fun ws52 => ([(1, (Pv w.heap.size)), (3, Sn S ge8), (4, .slice b012 m012 c012), (5, .slice bs m cp), (6, I6 i), (30, .slice bs m cp), (31, (Po w.heap.size 2)), (32, I6 S.st), (33, (Po (bof (.slice bs m cp)) (0 + S.st.toNat * 1))), (34, Sl fx.1 (S.lx.length + 2) (S.lx.length + 2)), (35, (Pv w.heap.size)), (36, S.lv), (37, I6 S.lx.length), (38, I6 ((S.lx.length + 1 : Nat) : Int)), (39, (Po fx.1 (0 + (S.lx.length + 1) * 1)))] : Fm)) (fun ws52 => [wl20.drew, ws52]) (wl20.drew) (fun e ws52 => hAt [True, (OwnR ws52 4 1 fx.1 (S.lx.length + 2) (S.lx.length + 2) ((bls fx.2).set (0 + (S.lx.length + 1) * 1) (Value.bool true))) ∧ (Ext [fx.1] wl20.drew ws52) ∧ True] e) (fun ws52 w' => [(2, [w'.cell? ⟨w.heap.size, 2, none⟩ = some (I6 S.st)]), (3, [Rv (Instr.indexAt 47 (.slice bs m cp) (I6 S.st)) ((Po (bof (.slice bs m cp)) (0 + S.st.toNat * 1))) w']), (4, [w'.cell? ⟨bof (.slice bs m cp), 0 + S.st.toNat * 1, none⟩ = some (Sl fx.1 (S.lx.length + 2) (S.lx.length + 2))]), (6, [w'.cell? ⟨w.heap.size, 0, none⟩ = some (S.lv)]), (7, [Rv (Builtin.len_ #[22] 3 #[S.lv]) (I6 S.lx.length) w']), (8, [Value.int .i64 (IntKind.i64.wrap (↑S.lx.length + 1)) = I6 ((S.lx.length + 1 : Nat) : Int)]), (9, [Rv (Instr.indexAt 124 (Sl fx.1 (S.lx.length + 2) (S.lx.length + 2)) (I6 ((S.lx.length + 1 : Nat) : Int))) ((Po fx.1 (0 + (S.lx.length + 1) * 1))) w'])]) wl20.drew [1, 3, 4, 5, 6] [] hS (fun ws52 _ => by kernel_rfl) trivial ?_ ?_ ?_
  ·rintro e ws52 w' hw hH
   refine (.c ?_ (.c ?_ (.c ?_ (.c ?_ (.c ?_ (.c ?_ (.c ?_ .nil)))))))
   ·intro h1 h2
    obtain rfl := Nat.le_antisymm h2 h1
    have hwe : wl20.drew = w' := hwz hw
    subst hwe
    clear hH
    exact (.c ((hB21.drew : Blk wl20.drew w.heap.size 26 (S.ca)).cell 2 rfl) .nil)
   ·intro h1 h2
    obtain rfl := Nat.le_antisymm h2 h1
    have hwe : wl20.drew = w' := hwz hw
    subst hwe
    clear hH
    exact (.c (ix_own (j := S.st.toNat) (hT.own) (by kernel_rfl) (by kernel_rfl) (Int.toNat_of_nonneg (by omega)).symm (by omega)) .nil)
   ·intro h1 h2
    obtain rfl := Nat.le_antisymm h2 h1
    have hwe : wl20.drew = w' := hwz hw
    subst hwe
    clear hH
    exact (.c (OwnV.cellAt (hT.own.drew : OwnV wl20.drew 124 1 (.slice bs m cp) m (L.map (bcl (S.lx.length + 2)))) _ (by rw [Nat.zero_add]; exact bcl_at hfx)) .nil)
   ·intro h1 h2
    obtain rfl := Nat.le_antisymm h2 h1
    have hwe : wl20.drew = w' := hwz hw
    subst hwe
    clear hH
    exact (.c ((hB21.drew : Blk wl20.drew w.heap.size 26 (S.ca)).cell 0 rfl) .nil)
   ·intro h1 h2
    obtain rfl := Nat.le_antisymm h2 h1
    have hwe : wl20.drew = w' := hwz hw
    subst hwe
    clear hH
    exact (.c (rlr 100 hG.lex) .nil)
   ·intro h1 h2
    obtain rfl := Nat.le_antisymm h2 h1
    have hwe : wl20.drew = w' := hwz hw
    subst hwe
    clear hH
    exact (.c ((by rw [show (↑S.lx.length + 1 : Int) = ((S.lx.length + 1 : Nat) : Int) from by omega]; exact as_i64 (by omega))) .nil)
   ·intro h1 h2
    obtain rfl := Nat.le_antisymm h2 h1
    have hwe : wl20.drew = w' := hwz hw
    subst hwe
    clear hH
    exact (.c (ix_slice (E := 4) (size := 1) (j := S.lx.length + 1) (by kernel_rfl) (by kernel_rfl) rfl (by omega)) .nil)
  ·refine (.c ?eq53_10 .nil)
   ·rintro ws52 hH
    clear hH
    refine eff_gh (wl20.drew) (by kernel_rfl) ?_
    refine upon_store_own (b := fx.1) (off := 0 + (S.lx.length + 1) * 1) (u := Value.bool true) (xs := (bls fx.2)) (by kernel_rfl) (hox.drew : OwnR wl20.drew 4 1 fx.1 (S.lx.length + 2) (S.lx.length + 2) (bls fx.2)) (by omega) fun ws52 hOs52 hEs52 hsz52 => ?_
    exact ⟨ws52, by kernel_rfl, by kernel_rfl, by kernel_rfl, ⟨hOs52, hEs52, trivial⟩⟩
  rintro ws52 a w54 hS hw55 hH
  obtain ⟨hOs52, hEs52, _⟩ := hH
  replace hw55 : w54 = ws52 := hw55.trans (by kernel_rfl)
  have hB57 := OwnV.at' hw55 ((hT.own.drew : OwnV wl20.drew 124 1 (.slice bs m cp) m (L.map (bcl (S.lx.length + 2)))).ext hEs52 (fun x hx hm => by simp at hm; exact (OwnV.neR hT.own hox (by decide)) x hx hm.symm))
  have hB58 : OwnR w54 4 1 fx.1 (S.lx.length + 2) (S.lx.length + 2) ((bls fx.2).set (0 + (S.lx.length + 1) * 1) (Value.bool true)) := by rw [hw55]; exact hOs52
  have hE59 : Ext [] wc12 w54 := by rw [hw55]; exact (hEl20.drew).trans hEs52 (fun b hb => by simp at hb; subst hb; exact .inr hxn)
  have hX60 : Ext [fx.1] wl20 w54 := by rw [hw55]; exact ((Ext.refl _ _).drew).trans hEs52 (by simp)
  have hG61 : BsL w54 wc12.heap.size (S.lx.length + 2) (L.set S.st.toNat (fx.1, fx.2.set (S.lx.length + 1) true)) := hsx.set hfx hX60 (by have h := hB58; rw [bls_set] at h; exact h)
  replace hS := hS.kp [(1, (Pv w.heap.size)), (3, Sn S ge8), (4, .slice b012 m012 c012), (5, .slice bs m cp), (6, I6 i)]
  refine hK51 _ _ <| sq fun K62 hK62 => sdq 1 [.p] [] [(8, .bool true)] [] hS .nil fun a hS => wpIn_block ?_
  refine loop_ghost (fun ((L1, mo) : (List (Nat × List Bool)) × Bool) a' w' => St 96 [] [(1, (Pv w.heap.size)), (3, Sn S ge8), (4, .slice b012 m012 c012), (5, .slice bs m cp), (8, .bool mo)] a' ∧ Ext [] wc12 w' ∧ Bst wc12.heap.size (S.lx.length + 2) w' bs m cp L1 ∧ RoS S (L1.map Prod.snd) ∧ (mo = false → ∀ j, j < S.ps.length → RoC S E8 (L012.map Prod.snd) j (L1.map Prod.snd))) (fun ((L1, mo) : (List (Nat × List Bool)) × Bool) => 2 * muR (L1.map Prod.snd) + mo.toNat) ((L.set S.st.toNat (fx.1, fx.2.set (S.lx.length + 1) true)), true) ⟨hS.keepTo [1, 3, 4, 5, 8] (by kernel_rfl), hE59, ⟨by rw [bcl_set hfx]; exact hB57, hT.new, hG61⟩, by rw [snd_set, hLr, hf0]; exact RoS.start hst, fun h => by cases h⟩ ?_
  rintro ⟨L1, mo⟩ a wl64 ⟨hS, hXl64, hT1, hS1, hc1⟩
  have hsb65 := hB13.ext hXl64 (by simp)
  refine sq fun K66 hK66 => sdq 1 [.p] [] [(40, .bool mo)] [] hS .nil fun a hS => ?_
  refine cond_b hS rfl (fun hb68 => ?_) (fun hb68 => ?_)
  ·
   replace hb68 := hb68
   have hmo : mo = true := hb68
   refine wpIn_skip <| hK66 _ _ <| wpIn_block <| sdq 1 [.p] [] [(8, .bool false)] [] hS .nil fun a hS => sdq 1 [.p] [] [(9, I6 0)] [] hS .nil fun a hS => wpIn_block ?_
   refine loop_ghost (fun ((i, L2, gr) : Nat × (List (Nat × List Bool)) × Bool) a' w' => St 96 [] [(1, (Pv w.heap.size)), (3, Sn S ge8), (4, .slice b012 m012 c012), (5, .slice bs m cp), (8, .bool gr), (9, I6 i)] a' ∧ Ext [] wc12 w' ∧ Bst wc12.heap.size (S.lx.length + 2) w' bs m cp L2 ∧ i ≤ S.ps.length ∧ RoP S E8 (L012.map Prod.snd) i (L1.map Prod.snd) (L2.map Prod.snd) gr) (fun ((i, L2, gr) : Nat × (List (Nat × List Bool)) × Bool) => S.ps.length - i) (0, L1, false) ⟨hS.keepTo [1, 3, 4, 5, 8, 9] (by kernel_rfl), hXl64, ⟨hT1.own, hT1.new, hT1.sets⟩, by omega, .start hS1⟩ ?_
   rintro ⟨i, L2, gr⟩ a wl71 ⟨hS, hXl71, hT2, hi, hP⟩
   have hsb72 := hB13.ext hXl71 (by simp)
   refine sq fun K73 hK73 => sdq 5 [.p, .p, .ld (S.pv), .run (I6 S.ps.length), .p] [_, Rv (Builtin.len_ #[24] 3 #[S.pv]) (I6 S.ps.length) wl71] [(45, .bool (decide ((↑i : Int) < ↑S.ps.length)))] [] hS (hsb72.k 3 (.c (rlr 73 hG.prods) .nil)) fun a hS => ?_
   refine cond_b hS rfl (fun hb75 => ?_) (fun hb75 => ?_)
   ·
    replace hb75 := of_decide_eq_true hb75
    obtain ⟨p, hpi⟩ : ∃ p, S.ps[i]? = some p := gE
    have hpm := List.mem_of_getElem? hpi
    have hrm := hG.rmax p hpm
    have hpl := hI.pl hpm
    refine wpIn_skip <| hK73 _ _ <| sq fun K76 hK76 => wpIn_block <| sq fun K77 hK77 => rgn 7 <| sd ww [.p, .ld (S.pv), .p, .run ((Po (bof S.pv) (oof S.pv + i * 2))), .lds [I6 p.l, p.rv]] [_, Rv (Instr.indexAt 24 (S.pv) (I6 i)) ((Po (bof S.pv) (oof S.pv + i * 2))) wl71, wl71.cell? ⟨bof S.pv, oof S.pv + i * 2, none⟩ = some (I6 p.l), wl71.cell? ⟨bof S.pv, oof S.pv + i * 2 + 1, none⟩ = some (p.rv)] [(52, .agg #[I6 p.l, p.rv])] [] 5 2 hS (hsb72.k 3 (.c (ixr 73 i hG.prods) (.c ((hG.prods.ext0 (hbr19.trans0 hXl71)).cellAt (i * 2 + 0) (by omega) (pcells_at S.ps i 0 p hpi (by omega))) (.c ((hG.prods.ext0 (hbr19.trans0 hXl71)).cellAt (i * 2 + 1) (by omega) (pcells_at S.ps i 1 p hpi (by omega))) .nil)))) fun a hS => ebx 1 #[I6 0, .slice none 0 0] 73 (some 10) hS fun a w78 hw79 hS => ?_
    have hn81 : ∀ x ∈ ob (.slice bs m cp), wl71.heap.size ≠ x := fun x hx => Nat.ne_of_gt (hT2.own.lie x hx)
    have hB83 := OwnV.at' hw79 (hT2.own.alloc _)
    have hX84 : Ext [] wl71 w78 := by rw [hw79]; exact (Ext.refl _ _).alloc _
    have hG85 : BsL w78 wc12.heap.size (S.lx.length + 2) L2 := hT2.sets.ext0 hX84
    have hB86 := Blk.nw hw79
    have hs87 := hXl71.size
    have hE88 := hXl71.al hw79
    refine est 0 wl71.heap.size 0 [I6 p.l, p.rv] hS hB86 fun a w89 hw90 hS => ?_
    have hB92 := OwnV.at' hw90 (hB83.updNe hn81 _ _)
    have hB93 : Blk w89 wl71.heap.size 73 (#[I6 p.l, p.rv]) := hB86.up hw90
    have hX94 : Ext [wl71.heap.size] w78 w89 := by rw [hw90]; exact (Ext.refl _ _).updIn (.inl (by simp)) _ _
    have hG95 : BsL w89 wc12.heap.size (S.lx.length + 2) L2 := hG85.extT hX94 hB86 (by decide)
    have hE96 := hE88.ui hw90 hs87
    refine sge hK77 <| sdq 1 [.p] [] [(11, I6 0)] [] hS .nil fun a hS => wpIn_block ?_
    refine loop_ghost (fun ((k, L3, hr) : Nat × (List (Nat × List Bool)) × Bool) a' w' => St 96 [] [(1, (Pv w.heap.size)), (3, Sn S ge8), (4, .slice b012 m012 c012), (10, (Pv wl71.heap.size)), (5, .slice bs m cp), (8, .bool hr), (9, I6 i), (11, I6 k)] a' ∧ Ext [] wc12 w' ∧ k ≤ p.r.length ∧ Blk w' wl71.heap.size 73 (#[I6 p.l, p.rv]) ∧ Bst wc12.heap.size (S.lx.length + 2) w' bs m cp L3 ∧ RoI S E8 (L012.map Prod.snd) i p k (L1.map Prod.snd) (L3.map Prod.snd) hr) (fun ((k, L3, hr) : Nat × (List (Nat × List Bool)) × Bool) => p.r.length - k) (0, L2, gr) ⟨hS.keepTo [1, 3, 4, 10, 5, 8, 9, 11] (by kernel_rfl), hE96, by omega, hB93, ⟨hB92, hT2.new, hG95⟩, .start hP⟩ ?_
    rintro ⟨k, L3, hr⟩ a wl98 ⟨hS, hXl98, hk, hpb, hT3, hQ⟩
    have hsb99 := hB13.ext hXl98 (by simp)
    refine sq fun K100 hK100 => sdq 5 [.p, .p, .ld (p.rv), .run (I6 p.r.length), .p] [_, Rv (Builtin.len_ #[71] 3 #[p.rv]) (I6 p.r.length) wl98] [(57, .bool (decide ((↑k : Int) < ↑p.r.length)))] [] hS (hpb.k 1 (.c (rlr 61 (hG.right p hpm)) .nil)) fun a hS => ?_
    refine cond_b hS rfl (fun hb102 => ?_) (fun hb102 => ?_)
    ·
     replace hb102 := of_decide_eq_true hb102
     obtain ⟨x, hxk⟩ : ∃ x, p.r[k]? = some x := gE
     have hxm := List.mem_of_getElem? hxk
     refine wpIn_skip <| hK100 _ _ <| sq fun K103 hK103 => wpIn_block <| sq fun K104 hK104 => ?_
     rcases (show (x.1 = 3) ∨ (¬x.1 = 3) from Decidable.em _) with h1 | h1
     ·
      have hxm := hI.name hpm hxm h1
      have hLl := hT3.len
      have hrc := rcut (hG.right p hpm) (l := k + 1) (by omega)
      have hrow : row (p.r.drop (k + 1)) = (row p.r).drop (k + 1) := by rw [row, row, List.map_drop]
      obtain ⟨fx, hfx⟩ : ∃ fx, L3[x.2.toNat]? = some fx := gE
      obtain ⟨fl, hfl⟩ : ∃ fl, L3[p.l.toNat]? = some fl := gE
      refine rgn 7 <| sd ww [.p, .ld (p.rv), .p, .run ((Po (bof p.rv) (oof p.rv + k * 2))), .p, .ld (I6 x.1), .as (.bool true)] [_, Rv (Instr.indexAt 71 (p.rv) (I6 k)) ((Po (bof p.rv) (oof p.rv + k * 2))) wl98, wl98.cell? ⟨bof p.rv, oof p.rv + k * 2, none⟩ = some (I6 x.1), Value.bool (((x.1 : Int) == 3)) = .bool true] [(66, .bool true)] [] 7 0 hS (hpb.k 1 (.c (ixr 61 k (hG.right p hpm)) (.c (((hG.right p hpm).ext0 (hbr19.trans0 hXl98)).cellAt (k * 2 + 0) (by omega) (ycells_at p.r k 0 x hxk (by omega))) (.c (as_eq_t (by omega)) .nil)))) fun a hS => sge hK104 ?_
      refine cond_t hS rfl ?_
      refine sq fun K105 hK105 => ?_
      refine gh3 (G := (Option Addr) × (List Bool) × World) [.q (.lds [S.lv, S.nv, I6 S.st, S.pv]), .q .p, .q (.ld (p.rv)), .q .p, .q (.as (I6 ((k + 1 : Nat) : Int))), .q (.run (rsz 2 p.rv (k + 1) p.r.length (capOf p.rv))), .q .p, .q .p, .q (.ld (I6 p.l)), .q (.run ((Po (bof (.slice bs m cp)) (0 + p.l.toNat * 1)))), .q (.ld (Sl fl.1 (S.lx.length + 2) (S.lx.length + 2))), .q .p, .q .p, .e, .q .p] [0, 0, 0, 0, 0, 0, 0, 0, 0, 0, 0, 0, 0, 0, 1] [0, 0, 0, 0, 0, 0, 0, 0, 0, 0, 0, 0, 0, 0, 1] [0, 0, 2, 0, 8, 30, 0, 0, 128, 448, 960, 0, 0, 8191, 16383] [13] [(13, 0)] 1 (fun ⟨b8106, o106, wc106⟩ => ([(1, (Pv w.heap.size)), (3, Sn S ge8), (4, .slice b012 m012 c012), (10, (Pv wl71.heap.size)), (5, .slice bs m cp), (8, .bool hr), (9, I6 i), (11, I6 k), (57, .bool (decide ((↑k : Int) < ↑p.r.length))), (66, .bool true), (67, .agg S.ca), (68, (Po wl71.heap.size 1)), (69, p.rv), (70, I6 k), (71, I6 ((k + 1 : Nat) : Int)), (72, (rsz 2 p.rv (k + 1) p.r.length (capOf p.rv))), (73, .slice bs m cp), (74, (Pv wl71.heap.size)), (75, I6 p.l), (76, (Po (bof (.slice bs m cp)) (0 + p.l.toNat * 1))), (77, Sl fl.1 (S.lx.length + 2) (S.lx.length + 2)), (78, .slice b012 m012 c012), (79, Sn S ge8), (80, .slice b8106 (S.lx.length + 2) (S.lx.length + 2)), (12, .slice b8106 (S.lx.length + 2) (S.lx.length + 2))] : Fm)) (fun ⟨b8106, o106, wc106⟩ => [wl98.drew, wc106]) (wl98.drew) (fun e ⟨b8106, o106, wc106⟩ => hAt [True, (OwnV wc106 4 1 (.slice b8106 (S.lx.length + 2) (S.lx.length + 2)) (S.lx.length + 2) (bls o106)) ∧ (∀ x ∈ ob (.slice b8106 (S.lx.length + 2) (S.lx.length + 2)), wl98.drew.heap.size ≤ x) ∧ (HbR S.nl (L012.map Prod.snd) E8 fl.2 (row (p.r.drop (k + 1))) o106) ∧ (Ext [] wl98.drew wc106) ∧ True] e) (fun ⟨b8106, o106, wc106⟩ w' => [(0, [w'.cell? ⟨w.heap.size, 0, none⟩ = some (S.lv), w'.cell? ⟨w.heap.size, 1, none⟩ = some (S.nv), w'.cell? ⟨w.heap.size, 2, none⟩ = some (I6 S.st), w'.cell? ⟨w.heap.size, 3, none⟩ = some (S.pv)]), (2, [w'.cell? ⟨wl71.heap.size, 1, none⟩ = some (p.rv)]), (4, [Value.int .i64 (IntKind.i64.wrap (↑k + 1)) = I6 ((k + 1 : Nat) : Int)]), (5, [Rv (Instr.sliceAt 71 p.rv (some (I6 ((k + 1 : Nat) : Int))) none none) (rsz 2 p.rv (k + 1) p.r.length (capOf p.rv)) w']), (8, [w'.cell? ⟨wl71.heap.size, 0, none⟩ = some (I6 p.l)]), (9, [Rv (Instr.indexAt 47 (.slice bs m cp) (I6 p.l)) ((Po (bof (.slice bs m cp)) (0 + p.l.toNat * 1))) w']), (10, [w'.cell? ⟨bof (.slice bs m cp), 0 + p.l.toNat * 1, none⟩ = some (Sl fl.1 (S.lx.length + 2) (S.lx.length + 2))])]) (none, ([]), wl98.drew) [1, 3, 4, 10, 5, 8, 9, 11, 57, 66] [] hS (fun ⟨b8106, o106, wc106⟩ _ => by kernel_rfl) trivial ?_ ?_ ?_
      ·rintro e ⟨b8106, o106, wc106⟩ w' hw hH
       refine (.c ?_ (.c ?_ (.c ?_ (.c ?_ (.c ?_ (.c ?_ (.c ?_ .nil)))))))
       ·intro h1 h2
        obtain rfl := Nat.le_antisymm h2 h1
        have hwe : wl98.drew = w' := hwz hw
        subst hwe
        clear hH
        exact (.c ((hsb99.drew : Blk wl98.drew w.heap.size 26 (S.ca)).cell 0 rfl) (.c ((hsb99.drew : Blk wl98.drew w.heap.size 26 (S.ca)).cell 1 rfl) (.c ((hsb99.drew : Blk wl98.drew w.heap.size 26 (S.ca)).cell 2 rfl) (.c ((hsb99.drew : Blk wl98.drew w.heap.size 26 (S.ca)).cell 3 rfl) .nil))))
       ·intro h1 h2
        obtain rfl := Nat.le_antisymm h2 h1
        have hwe : wl98.drew = w' := hwz hw
        subst hwe
        clear hH
        exact (.c ((hpb.drew : Blk wl98.drew wl71.heap.size 73 (#[I6 p.l, p.rv])).cell 1 rfl) .nil)
       ·intro h1 h2
        obtain rfl := Nat.le_antisymm h2 h1
        have hwe : wl98.drew = w' := hwz hw
        subst hwe
        clear hH
        exact (.c ((by rw [show (↑k + 1 : Int) = ((k + 1 : Nat) : Int) from by omega]; exact as_i64 (by omega))) .nil)
       ·intro h1 h2
        obtain rfl := Nat.le_antisymm h2 h1
        have hwe : wl98.drew = w' := hwz hw
        subst hwe
        clear hH
        exact (.c (sl_z (e := 61) (l := k + 1) (k := p.r.length) (some (I6 ((k + 1 : Nat) : Int))) none (hG.right p hpm) (by kernel_rfl) (by kernel_rfl) (.inr ⟨_, rfl⟩) (.inl ⟨rfl, rfl⟩) (by omega) (by omega)) .nil)
       ·intro h1 h2
        obtain rfl := Nat.le_antisymm h2 h1
        have hwe : wl98.drew = w' := hwz hw
        subst hwe
        clear hH
        exact (.c ((hpb.drew : Blk wl98.drew wl71.heap.size 73 (#[I6 p.l, p.rv])).cell 0 rfl) .nil)
       ·intro h1 h2
        obtain rfl := Nat.le_antisymm h2 h1
        have hwe : wl98.drew = w' := hwz hw
        subst hwe
        clear hH
        exact (.c (ix_own (j := p.l.toNat) (hT3.own) (by kernel_rfl) (by kernel_rfl) (Int.toNat_of_nonneg (by omega)).symm (by omega)) .nil)
       ·intro h1 h2
        obtain rfl := Nat.le_antisymm h2 h1
        have hwe : wl98.drew = w' := hwz hw
        subst hwe
        clear hH
        exact (.c (OwnV.cellAt (hT3.own.drew : OwnV wl98.drew 124 1 (.slice bs m cp) m (L3.map (bcl (S.lx.length + 2)))) _ (by rw [Nat.zero_add]; exact bcl_at hfl)) .nil)
      ·refine (.c ?eq107_13 .nil)
       ·rintro ⟨b8106, o106, wc106⟩ hH
        clear hH
        refine eff_gh (wl98.drew) (by kernel_rfl) ?_
        refine upon_call (f := 68) (vs := [.agg S.ca, (rsz 2 p.rv (k + 1) p.r.length (capOf p.rv)), Sl fl.1 (S.lx.length + 2) (S.lx.length + 2), .slice b012 m012 c012, Sn S ge8]) (cap := #[]) (d := (some 80)) (by kernel_rfl) Tryd.call68 #[.agg S.ca, (rsz 2 p.rv (k + 1) p.r.length (capOf p.rv)), Sl fl.1 (S.lx.length + 2) (S.lx.length + 2), .slice b012 m012 c012, Sn S ge8] (by kernel_rfl) (heads_w (heads_r (hG.ext0 ((hbr19.trans0 hXl98).trans0 ((Ext.refl [] _).drew))) (Ext.refl [] _) (hrc.ext0 ((hbr19.trans0 hXl98).trans0 ((Ext.refl [] _).drew))) (by rw [List.length_drop]; omega) (fun y hy => hI.right p hpm y (List.mem_of_mem_drop hy)) (((hT3.sets).rows _ fl hfl).ext ((Ext.refl [] _).drew) (by simp)).v.rd (fun x hx => by simp [ob] at hx; rw [hx]; exact (((hT3.sets).rows _ fl hfl).ext ((Ext.refl [] _).drew) (by simp)).lt) (Nat.le_refl _) (hT12.own.ext (hXl98.trans0 ((Ext.refl [] _).drew)) (by simp)).rd (hT12.sets.ext0 (hXl98.trans0 ((Ext.refl [] _).drew))) hLl12 (hG14.own.ext (hXl98.trans0 ((Ext.refl [] _).drew)) (by simp)).v.rd hG14.is.len)) ?_
        rintro _ wc106 ⟨b8106, o106, rfl, hO106, hN8106, hR106, hEc106⟩
        exact ⟨_, rfl, ⟨(b8106, o106, wc106), by kernel_rfl, by kernel_rfl, by kernel_rfl, ⟨hO106, hN8106, hR106, hEc106, trivial⟩⟩⟩
      rintro ⟨b8106, o106, wc106⟩ a w108 hS hw109 hH
      obtain ⟨hO106, hN8106, hR106, hEc106, _⟩ := hH
      replace hw109 : w108 = wc106 := hw109.trans (by kernel_rfl)
      have hB111 := OwnV.at' hw109 ((hT3.own.drew : OwnV wl98.drew 124 1 (.slice bs m cp) m (L3.map (bcl (S.lx.length + 2)))).ext hEc106 (by simp))
      have hB112 := Blk.at' hw109 ((hpb.drew : Blk wl98.drew wl71.heap.size 73 (#[I6 p.l, p.rv])).ext hEc106 (by simp))
      have hB113 : OwnV w108 4 1 (.slice b8106 (S.lx.length + 2) (S.lx.length + 2)) (S.lx.length + 2) (bls o106) := by rw [hw109]; exact hO106
      have hE114 : Ext [] wc12 w108 := by rw [hw109]; exact (hXl98.drew).trans0 hEc106
      have hX115 : Ext [] wl98 w108 := by rw [hw109]; exact ((Ext.refl _ _).drew).trans0 hEc106
      have hG116 : BsL w108 wc12.heap.size (S.lx.length + 2) L3 := hT3.sets.ext0 hX115
      replace hS := hS.kp [(1, (Pv w.heap.size)), (3, Sn S ge8), (4, .slice b012 m012 c012), (10, (Pv wl71.heap.size)), (5, .slice bs m cp), (8, .bool hr), (9, I6 i), (11, I6 k), (57, .bool (decide ((↑k : Int) < ↑p.r.length))), (66, .bool true), (12, .slice b8106 (S.lx.length + 2) (S.lx.length + 2))]
      refine hK105 _ _ ?_
      have hsx := hG116
      have hox := hsx.rows _ fx hfx
      have hfl2 := hsx.len hfx
      have hxg : ∀ x ∈ ob (.slice b8106 (S.lx.length + 2) (S.lx.length + 2)), fx.1 ≠ x := fun x hx => Nat.ne_of_lt (Nat.lt_of_lt_of_le ((hT3.sets).lt hfx) (hN8106 x hx))
      rw [hrow] at hR106
      have hHl := hR106.len
      rw [show S.nl = S.lx.length from rfl] at hHl
      rcases (show (∀ t, on o106 t → on fx.2 t) ∨ (¬∀ t, on o106 t → on fx.2 t) from Classical.em _) with h8 | h8
      ·
       refine rgn 15 <| sd ww [.p, .p, .ld (p.rv), .p, .run ((Po (bof p.rv) (oof p.rv + k * 2))), .p, .ld (I6 x.2), .run ((Po (bof (.slice bs m cp)) (0 + x.2.toNat * 1))), .ld (Sl fx.1 (S.lx.length + 2) (S.lx.length + 2)), .p] [_, Rv (Instr.indexAt 71 (p.rv) (I6 k)) ((Po (bof p.rv) (oof p.rv + k * 2))) w108, w108.cell? ⟨bof p.rv, oof p.rv + k * 2 + 1, none⟩ = some (I6 x.2), Rv (Instr.indexAt 47 (.slice bs m cp) (I6 x.2)) ((Po (bof (.slice bs m cp)) (0 + x.2.toNat * 1))) w108, w108.cell? ⟨bof (.slice bs m cp), 0 + x.2.toNat * 1, none⟩ = some (Sl fx.1 (S.lx.length + 2) (S.lx.length + 2))] [(89, Sl fx.1 (S.lx.length + 2) (S.lx.length + 2)), (90, .slice b8106 (S.lx.length + 2) (S.lx.length + 2))] [] 10 5 hS (hB112.k 1 (.c (ixr 61 k (hG.right p hpm)) (.c (((hG.right p hpm).ext0 (hbr19.trans0 hE114)).cellAt (k * 2 + 1) (by omega) (ycells_at p.r k 1 x hxk (by omega))) (.c (ix_own (j := x.2.toNat) (hB111) (by kernel_rfl) (by kernel_rfl) (Int.toNat_of_nonneg (by omega)).symm (by omega)) (.c (OwnV.cellAt hB111 _ (by rw [Nat.zero_add]; exact bcl_at hfx)) .nil))))) fun a hS => ecl 4 (some 91) hS Tryd.call69 #[Sl fx.1 (S.lx.length + 2) (S.lx.length + 2), .slice b8106 (S.lx.length + 2) (S.lx.length + 2)] (Add_no hox (m0 := (S.lx.length + 2)) (hB113).rd (fun x hx hm => by simp at hm; exact hxg x hx hm.symm) (Nat.le_refl _) (by omega) h8) ?_
       rintro _ wc117 ⟨rfl, hO117, hEc117⟩
       refine ⟨_, rfl, fun a hS => ?_⟩
       have hB119 := hB111.ext hEc117 (fun x hx hm => by simp at hm; exact (OwnV.neR hB111 hox (by decide)) x hx hm.symm)
       have hB120 := hB112.ext hEc117 (by simpa using (OwnR.ne_type hox hB112 (by decide)).symm)
       have hE122 := hE114.trans hEc117 (fun b hbM => by simp at hbM; rw [hbM]; exact .inr (hsx.ge _ fx hfx))
       refine sd ww [.p, .p, .p, .p] [] [] [] 15 0 hS .nil fun a hS => seg_end <| inBlock_normal <| hK103 _ _ <| rgn 3 <| sd ww [.p, .as (I6 ((k + 1 : Nat) : Int)), .p] [Value.int .i64 (IntKind.i64.wrap (↑k + 1)) = I6 ((k + 1 : Nat) : Int)] [(11, I6 ((k + 1 : Nat) : Int))] [] 3 0 hS (.c ((by rw [show (↑k + 1 : Int) = ((k + 1 : Nat) : Int) from by omega]; exact as_i64 (by omega))) .nil) fun a hS => seg_end ?_
       have hsn := hsx.keep hfx hEc117 hO117
       exact ⟨(k + 1, L3, hr), ⟨hS.kp [(1, (Pv w.heap.size)), (3, Sn S ge8), (4, .slice b012 m012 c012), (10, (Pv wl71.heap.size)), (5, .slice bs m cp), (8, .bool hr), (9, I6 i), (11, I6 ((k + 1 : Nat) : Int))], hE122, by omega, hB120, ⟨hB119, hT3.new, hsn⟩, hQ.pass (.of hxk (snd_at hfx) (snd_at hfl) hR106 h8)⟩, by simp only; omega⟩
      ·
       refine rgn 15 <| sd ww [.p, .p, .ld (p.rv), .p, .run ((Po (bof p.rv) (oof p.rv + k * 2))), .p, .ld (I6 x.2), .run ((Po (bof (.slice bs m cp)) (0 + x.2.toNat * 1))), .ld (Sl fx.1 (S.lx.length + 2) (S.lx.length + 2)), .p] [_, Rv (Instr.indexAt 71 (p.rv) (I6 k)) ((Po (bof p.rv) (oof p.rv + k * 2))) w108, w108.cell? ⟨bof p.rv, oof p.rv + k * 2 + 1, none⟩ = some (I6 x.2), Rv (Instr.indexAt 47 (.slice bs m cp) (I6 x.2)) ((Po (bof (.slice bs m cp)) (0 + x.2.toNat * 1))) w108, w108.cell? ⟨bof (.slice bs m cp), 0 + x.2.toNat * 1, none⟩ = some (Sl fx.1 (S.lx.length + 2) (S.lx.length + 2))] [(89, Sl fx.1 (S.lx.length + 2) (S.lx.length + 2)), (90, .slice b8106 (S.lx.length + 2) (S.lx.length + 2))] [] 10 5 hS (hB112.k 1 (.c (ixr 61 k (hG.right p hpm)) (.c (((hG.right p hpm).ext0 (hbr19.trans0 hE114)).cellAt (k * 2 + 1) (by omega) (ycells_at p.r k 1 x hxk (by omega))) (.c (ix_own (j := x.2.toNat) (hB111) (by kernel_rfl) (by kernel_rfl) (Int.toNat_of_nonneg (by omega)).symm (by omega)) (.c (OwnV.cellAt hB111 _ (by rw [Nat.zero_add]; exact bcl_at hfx)) .nil))))) fun a hS => ecl 4 (some 91) hS Tryd.call69 #[Sl fx.1 (S.lx.length + 2) (S.lx.length + 2), .slice b8106 (S.lx.length + 2) (S.lx.length + 2)] (Add_yes hox (m0 := (S.lx.length + 2)) (hB113).rd (fun x hx hm => by simp at hm; exact hxg x hx hm.symm) (Nat.le_refl _) (by omega) h8) ?_
       rintro _ wc123 ⟨c123, rfl, hO123, hA123, hEc123⟩
       refine ⟨_, rfl, fun a hS => ?_⟩
       have hB125 := hB111.ext hEc123 (fun x hx hm => by simp at hm; exact (OwnV.neR hB111 hox (by decide)) x hx hm.symm)
       have hB126 := hB112.ext hEc123 (by simpa using (OwnR.ne_type hox hB112 (by decide)).symm)
       have hE128 := hE114.trans hEc123 (fun b hbM => by simp at hbM; rw [hbM]; exact .inr (hsx.ge _ fx hfx))
       refine sd ww [.p, .no, .p, .p] [] [(8, .bool true)] [] 15 0 hS .nil fun a hS => seg_end <| inBlock_normal <| hK103 _ _ <| rgn 3 <| sd ww [.p, .as (I6 ((k + 1 : Nat) : Int)), .p] [Value.int .i64 (IntKind.i64.wrap (↑k + 1)) = I6 ((k + 1 : Nat) : Int)] [(11, I6 ((k + 1 : Nat) : Int))] [] 3 0 hS (.c ((by rw [show (↑k + 1 : Int) = ((k + 1 : Nat) : Int) from by omega]; exact as_i64 (by omega))) .nil) fun a hS => seg_end ?_
       have hsn := hsx.set hfx hEc123 hO123
       have hS2 := hQ.h.snd.set hG14.is hIF12 hpm hxk h1 (snd_at hfx) (snd_at hfl) hR106 hA123
       have hmu := muR_set (snd_at hfx) (hA123.yes rfl)
       rw [← snd_set (x := fx)] at hS2 hmu
       exact ⟨(k + 1, _, true), ⟨hS.kp [(1, (Pv w.heap.size)), (3, Sn S ge8), (4, .slice b012 m012 c012), (10, (Pv wl71.heap.size)), (5, .slice bs m cp), (8, .bool true), (9, I6 i), (11, I6 ((k + 1 : Nat) : Int))], hE128, by omega, hB126, ⟨by rw [bcl_set hfx]; exact hB125, hT3.new, hsn⟩, hQ.set hS2 hmu⟩, by simp only; omega⟩
     ·
      refine rgn 7 <| sd ww [.p, .ld (p.rv), .p, .run ((Po (bof p.rv) (oof p.rv + k * 2))), .p, .ld (I6 x.1), .as (.bool false)] [_, Rv (Instr.indexAt 71 (p.rv) (I6 k)) ((Po (bof p.rv) (oof p.rv + k * 2))) wl98, wl98.cell? ⟨bof p.rv, oof p.rv + k * 2, none⟩ = some (I6 x.1), Value.bool (((x.1 : Int) == 3)) = .bool false] [(66, .bool false)] [] 7 0 hS (hpb.k 1 (.c (ixr 61 k (hG.right p hpm)) (.c (((hG.right p hpm).ext0 (hbr19.trans0 hXl98)).cellAt (k * 2 + 0) (by omega) (ycells_at p.r k 0 x hxk (by omega))) (.c (as_eq_f (by omega)) .nil)))) fun a hS => sge hK104 ?_
      refine cond_f hS rfl ?_
      refine wpIn_skip <| inBlock_normal <| hK103 _ _ <| rgn 3 <| sd ww [.p, .as (I6 ((k + 1 : Nat) : Int)), .p] [Value.int .i64 (IntKind.i64.wrap (↑k + 1)) = I6 ((k + 1 : Nat) : Int)] [(11, I6 ((k + 1 : Nat) : Int))] [] 3 0 hS (.c ((by rw [show (↑k + 1 : Int) = ((k + 1 : Nat) : Int) from by omega]; exact as_i64 (by omega))) .nil) fun a hS => seg_end ?_
      exact ⟨(k + 1, L3, hr), ⟨hS.kp [(1, (Pv w.heap.size)), (3, Sn S ge8), (4, .slice b012 m012 c012), (10, (Pv wl71.heap.size)), (5, .slice bs m cp), (8, .bool hr), (9, I6 i), (11, I6 ((k + 1 : Nat) : Int))], hXl98, by omega, hpb, ⟨hT3.own, hT3.new, hT3.sets⟩, hQ.pass (.no hxk h1)⟩, by simp only; omega⟩
    ·
     replace hb102 := of_decide_eq_false hb102
     have hke : k = p.r.length := by omega
     refine xt2 <| inBlock_normal <| hK76 _ _ <| rgn 3 <| sd ww [.p, .as (I6 (↑i + 1)), .p] [_] [(9, I6 (↑i + 1))] [] 3 0 hS (as6 (↑i + 1)) fun a hS => seg_end ?_
     exact ⟨(i + 1, L3, hr), ⟨hS.kp [(1, (Pv w.heap.size)), (3, Sn S ge8), (4, .slice b012 m012 c012), (5, .slice bs m cp), (8, .bool hr), (9, I6 (↑i + 1))], hXl98, ⟨hT3.own, hT3.new, hT3.sets⟩, by omega, (show RoI S E8 (L012.map Prod.snd) i p p.r.length _ _ hr from hke ▸ hQ).done hpi⟩, by simp only; omega⟩
   ·
    replace hb75 := of_decide_eq_false hb75
    have hie : i = S.ps.length := by omega
    rw [hie] at hP
    refine xt2 <| inBlock_normal ?_
    exact ⟨(L2, gr), ⟨hS.kp [(1, (Pv w.heap.size)), (3, Sn S ge8), (4, .slice b012 m012 c012), (5, .slice bs m cp), (8, .bool gr)], hXl71, ⟨hT2.own, hT2.new, hT2.sets⟩, hP.snd, fun h => (hP.cl h).2⟩, (show 2 * muR (L2.map Prod.snd) + gr.toNat < 2 * muR (L1.map Prod.snd) + mo.toNat from by rw [hmo]; exact hP.more)⟩
  ·
   replace hb68 := hb68
   have hmo : mo = false := by simpa using hb68
   refine xt2 <| hK62 _ _ <| sdq 2 [.p, .p] [] [(2, .slice bs m cp)] [] hS .nil fun a hS => wpIn_ret ?_
   refine ret1 hS Tryd.results25 rfl ?_
   exact ⟨_, _, _, _, rfl, hT1.more hN0, by rw [hT1.len]; exact hmn, RoS.isO hG14.is hIF12 hS1 (hc1 hmo), (hE15.trans0 hXl64)⟩
end Go.Proofs.YtkkpghlcmcaoiaaDoor
