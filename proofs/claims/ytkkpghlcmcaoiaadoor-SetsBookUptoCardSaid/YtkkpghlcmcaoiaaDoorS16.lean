import Derived.Test.YtkkpghlcmcaoiaaDoorS15
namespace Go.Proofs.YtkkpghlcmcaoiaaDoor
open Go.Vc Go.Gm
theorem Yr.put {N g cp n : Nat} {w w1 : World} {L : List Rw} {R : List (List Nat)} (h : Yr N w g cp n L R) {j : Nat} {bs : Option Addr} {m cq : Nat} {zs : List Nat} {N' : Nat} (hO : OwnR w1 51 1 g cp n ((L.map Rw.v).set (0 + j * 1) (.slice bs m cq))) (hE : Ext [g] w w1) (hr : RowN N' w bs m cq zs) (hN : N ≤ N') (hne : zs = [] → bs = none ∧ m = 0 ∧ cq = 0)
  (hlt : ∀ (k : Nat) (x : Rw), L[k]? = some x → ∀ b ∈ ob x.v, b < N') : Yr N w1 g cp n (L.set j ⟨.slice bs m cq, m, ivs zs⟩) (R.set j zs) := by
 have hg : ∀ x ∈ ob (.slice bs m cq), x ∉ [g] := fun x hx hm => by
  simp at hm
  rw [hm] at hx
  exact OwnV.neR hr.own h.own (by decide) g hx rfl
 have hfam : Fam w1 3 1 (fun b => N ≤ b) L := h.fam.ext hE fun k x hx b hb hm => by
  simp at hm
  rw [hm] at hb
  exact OwnV.neR (h.fam.own k x hx) h.own (by decide) g hb rfl
 have hl := hr.len
 refine ⟨?_, Fam.put hfam (hr.own.ext hE hg) (fun b hb => Nat.le_trans hN (hr.new b hb)) (fun k x hx b hb hm => absurd (hlt k x hx b hb) (Nat.not_lt.2 (hr.new b hm))), ?_, fun k x hx h0 => ?_⟩
 ·rw [List.map_set]
  rw [Nat.zero_add, Nat.mul_one] at hO
  exact hO
 ·rw [List.map_set, List.map_set, h.is, hl]
 ·rw [List.getElem?_set] at hx
  split at hx
  ·split at hx
   ·simp at hx
    subst hx
    simp only at h0
    obtain ⟨e1, e2, e3⟩ := hne (List.eq_nil_of_length_eq_zero (hl.trans h0))
    show Value.slice bs m cq = _
    rw [e1, e2, e3]
   ·cases hx
  ·exact h.nil k x hx h0
theorem Yr.start {w : World} {N g n : Nat} (hO : OwnR w 51 1 g n n (List.replicate (n * 1) (.slice none 0 0))) : Yr N w g n n (List.replicate n ⟨.slice none 0 0, 0, []⟩) (List.replicate n []) := by
 have hx : ∀ (k : Nat) (x : Rw), (List.replicate n (⟨.slice none 0 0, 0, []⟩ : Rw))[k]? = some x → x = ⟨.slice none 0 0, 0, []⟩ := fun k x hx => by
  rw [List.getElem?_replicate] at hx
  split at hx
  ·simpa using hx.symm
  ·cases hx
 refine ⟨by rw [Nat.mul_one] at hO; simpa using hO, ⟨fun k x h => ?_, fun k x h b hb => ?_, fun i j x y _ h _ b hb => ?_⟩, by simp [ivs], fun k x h _ => by rw [hx k x h]⟩
 ·rw [hx k x h]; exact OwnV.nil _ _ _
 ·rw [hx k x h] at hb; simp [ob] at hb
 ·rw [hx i x h] at hb; simp [ob] at hb
theorem YsS.short {S : Sp} {vs : List Nat} {R : List (List Nat)} (hV : IsC S.g 0 1 4097 (vf 4097 vs)) (h : YsS S (vf 4097 vs) R) : ∀ u ∈ R, u.length ≤ 4097 := fun u hu => by
 obtain ⟨i, hi⟩ := List.getElem?_of_mem hu
 by_cases h0 : u = []
 ·rw [h0]; exact Nat.zero_le _
 ·have h1 := (h.snd i (by rw [rF_at hi]; exact h0)).2.1
  rw [rF_at hi] at h1
  rw [h1]; exact hV.le i
theorem vf_mem {vs : List Nat} {S : Sp} (hV : IsC S.g 0 1 4097 (vf 4097 vs)) : ∀ v ∈ vs, v ≤ 4097 := fun v hv => by
 obtain ⟨i, hi⟩ := List.getElem?_of_mem hv
 have := hV.le i
 rw [vf_at hi] at this; exact this
set_option maxHeartbeats 1000000 in
theorem yields2_any {w0 w : World} {S : Sp} (hG : SpOk w0 S) (hb : Ext [] w0 w) (hI : Ix S) {N g cp gv cv sb lb mb : Nat} {L : List Rw} {R : List (List Nat)} {vs : List Nat} (hsb : Blk w sb 26 S.ca) (hlb : Blk w lb 51 #[Sl gv S.ns.length cv]) (hmb : Blk w mb 144 #[.func (.func 94) #[] #[(Pv sb), (Pv lb)]]) (hY : Yr N w g cp S.ns.length L R) (hgv : OwnR w 3 1 gv cv S.ns.length (ivs vs)) (hV : IsC S.g 0 1 4097 (vf 4097 vs)) (hlg : lb ≠ g) (hgn : w0.heap.size ≤ g) (hNw : N ≤ w.heap.size) (hs : YsS S (vf 4097 vs) R) :
  Calls Tryd.prog 96 #[Sl g S.ns.length cp, (Pv sb), (Pv mb)] w fun e w' => ∃ L' R' gr, e = .returned (.tuple #[Sl g S.ns.length cp, .bool gr]) ∧ Yr N w' g cp S.ns.length L' R' ∧ YsP S (vf 4097 vs) S.ps.length R R' gr ∧ Ext [g] w w' := by
 have hlmax := hG.lmax
 have hnmax := hG.nmax
 have hpmax := hG.pmax
 refine cbd 57 [(0, Sl g S.ns.length cp), (1, (Pv sb)), (2, (Pv mb))] Tryd.func96 rfl fun a hS => ?_
 have hE0 : Ext [g] w w := Ext.refl _ _
 refine sdq 2 [.p, .p] [] [(4, .slice none 0 0), (5, .bool false)] [] hS .nil fun a hS => sdq 1 [.p] [] [(6, .bool false)] [] hS .nil fun a hS => sq fun K3 hK3 => sdq 4 [.p, .ld (S.pv), .run (I6 S.ps.length), .p] [_, Rv (Builtin.len_ #[24] 3 #[S.pv]) (I6 S.ps.length) w] [(12, S.pv), (13, I6 S.ps.length), (14, I6 0)] [] hS (hsb.k 3 (.c (rlr 73 hG.prods) .nil)) fun a hS => wpIn_block ?_
 have hbl5 := (hb.t1 hE0 hgn)
 refine loop_ghost (fun ((i, L1, R1, gr) : Nat × (List Rw) × (List (List Nat)) × Bool) a' w' => St 57 [] [(0, Sl g S.ns.length cp), (2, (Pv mb)), (12, S.pv), (13, I6 S.ps.length), (14, I6 i), (6, .bool gr)] a' ∧ Ext [g] w w' ∧ i ≤ S.ps.length ∧ Yr N w' g cp S.ns.length L1 R1 ∧ YsP S (vf 4097 vs) i R R1 gr) (fun ((i, L1, R1, gr) : Nat × (List Rw) × (List (List Nat)) × Bool) => S.ps.length - i) (0, L, R, false) ⟨hS.keepTo [0, 2, 12, 13, 14, 6] (by kernel_rfl), Ext.refl _ _, by omega, hY, .start hs⟩ ?_
 rintro ⟨i, L1, R1, gr⟩ a wl5 ⟨hS, hXl5, hi, hY1, hP⟩
 have hB6 := hsb.ext hXl5 (by simpa using (OwnR.ne_type hY.own hsb (by decide)).symm)
 have hB7 := hlb.ext hXl5 (by simpa using hlg)
 have hB8 := hmb.ext hXl5 (by simpa using (OwnR.ne_type hY.own hmb (by decide)).symm)
 have hB9 := hgv.ext hXl5 (by simpa using (OwnR.neR hgv hY.own (by decide)))
 refine sdq 1 [.p] [] [(15, .bool (decide ((↑i : Int) < ↑S.ps.length)))] [] hS .nil fun a hS => sq fun K11 hK11 => ?_
 refine cond_b hS rfl (fun hb12 => ?_) (fun hb12 => ?_)
 ·
  replace hb12 := of_decide_eq_true hb12
  obtain ⟨p, hpi⟩ : ∃ p, S.ps[i]? = some p := gE
  have hpm := List.mem_of_getElem? hpi
  have hrm := hG.rmax p hpm
  have hpl := hI.pl hpm
  have hyl := hY1.len
  refine wpIn_skip <| hK11 _ _ <| sq fun K13 hK13 => wpIn_block <| sq fun K14 hK14 => rgn 4 <| sd ww [.run ((Po (bof S.pv) (oof S.pv + i * 2))), .lds [I6 p.l, p.rv]] [Rv (Instr.indexAt 24 (S.pv) (I6 i)) ((Po (bof S.pv) (oof S.pv + i * 2))) wl5, wl5.cell? ⟨bof S.pv, oof S.pv + i * 2, none⟩ = some (I6 p.l), wl5.cell? ⟨bof S.pv, oof S.pv + i * 2 + 1, none⟩ = some (p.rv)] [(17, .agg #[I6 p.l, p.rv])] [] 2 2 hS (.c (ixr 73 i hG.prods) (.c ((hG.prods.ext0 (hbl5.t1 hXl5 hgn)).cellAt (i * 2 + 0) (by omega) (pcells_at S.ps i 0 p hpi (by omega))) (.c ((hG.prods.ext0 (hbl5.t1 hXl5 hgn)).cellAt (i * 2 + 1) (by omega) (pcells_at S.ps i 1 p hpi (by omega))) .nil))) fun a hS => ebx 1 #[I6 0, .slice none 0 0] 73 (some 8) hS fun a w15 hw16 hS => ?_
  have hn17 := Nat.ne_of_lt hB6.lt
  have hn18 := Nat.ne_of_lt hB7.lt
  have hn19 := Nat.ne_of_lt hB8.lt
  have hn20 := Nat.ne_of_lt hB9.lt
  have hn21 := Nat.ne_of_lt hY1.own.lt
  have hB22 := Blk.at' hw16 (hB6.alloc _)
  have hB23 := Blk.at' hw16 (hB7.alloc _)
  have hB24 := Blk.at' hw16 (hB8.alloc _)
  have hB25 := OwnR.at' hw16 (hB9.alloc _)
  have hB26 := OwnR.at' hw16 (hY1.own.alloc _)
  have hX27 : Ext [] wl5 w15 := by rw [hw16]; exact (Ext.refl _ _).alloc _
  have hG28 : Yr N w15 g cp S.ns.length L1 R1 := hY1.ext0 hX27
  have hB29 := Blk.nw hw16
  have hs30 := hXl5.size
  have hE31 := hXl5.al hw16
  refine est 0 wl5.heap.size 0 [I6 p.l, p.rv] hS hB29 fun a w32 hw33 hS => ?_
  have hB34 := Blk.at' hw33 (hB22.updNe (Ne.symm hn17) _ _)
  have hB35 := Blk.at' hw33 (hB23.updNe (Ne.symm hn18) _ _)
  have hB36 := Blk.at' hw33 (hB24.updNe (Ne.symm hn19) _ _)
  have hB37 := OwnR.at' hw33 (hB25.updNe (Ne.symm hn20) _ _)
  have hB38 := OwnR.at' hw33 (hB26.updNe (Ne.symm hn21) _ _)
  have hB39 : Blk w32 wl5.heap.size 73 (#[I6 p.l, p.rv]) := hB29.up hw33
  have hX40 : Ext [wl5.heap.size] w15 w32 := by rw [hw33]; exact (Ext.refl _ _).updIn (.inl (by simp)) _ _
  have hG41 : Yr N w32 g cp S.ns.length L1 R1 := hG28.extT hX40 hB29 (by decide) (by decide)
  have hE42 := hE31.ui hw33 hs30
  refine sge hK14 <| sq fun K43 hK43 => rgn 9 <| sd ww [.ld (.func (.func 94) #[] #[(Pv sb), (Pv lb)]), .p, .lds [I6 p.l, p.rv]] [_, _, _] [(19, .func (.func 94) #[] #[(Pv sb), (Pv lb)]), (20, Sl g S.ns.length cp), (21, .agg #[I6 p.l, p.rv])] [] 3 6 hS (hB36.k 0 (hB39.k 0 (hB39.k 1 .nil))) fun a hS => eff_call ww (r := 5) (f := 94) (vs := [Sl g S.ns.length cp, .agg #[I6 p.l, p.rv]]) (cap := #[(Pv sb), (Pv lb)]) (d := (some 22)) hS (by kernel_rfl) Tryd.call94 #[Sl g S.ns.length cp, .agg #[I6 p.l, p.rv], (Pv sb), (Pv lb)] (by kernel_rfl) (makes_any hG (hbl5.t1 hE42 hgn) hI hpm hB34 hB35 hG41 hB37 (vf_mem hV) (hP.snd.short hV)) ?_
  rintro _ wc44 ⟨bs44, n44, cq44, zs44, ok44, rfl, hRn44, hM44, hz444, hEc44⟩
  refine ⟨_, rfl, fun a hS => ?_⟩
  have hB49 := hB38.ext hEc44 (by simp)
  have hB50 := hB39.ext hEc44 (by simp)
  have hG51 : Yr N wc44 g cp S.ns.length L1 R1 := hG41.ext0 hEc44
  have hE52 := hE42.trans0 hEc44
  refine sd ww [.p, .p, .p, .p, .p] [] [(9, .slice bs44 n44 cq44), (10, .bool ok44)] [] 9 0 hS .nil fun a hS => sge hK43 <| sq fun K53 hK53 => ?_
  have hnz := hRn44.len
  have hz4 := hz444
  have hNc : N ≤ w32.heap.size := Nat.le_trans hNw ((hE0.trans hE42 (fun b hbM => by simp at hbM; rw [hbM]; exact .inl (by simp)))).size
  obtain ⟨u, hu⟩ : ∃ u, R1[p.l.toNat]? = some u := gE
  have hat := hG51.at hu
  have hcase : (ok44 = false) ∨ (ok44 = true ∧ n44 = 0) ∨ (ok44 = true ∧ 0 < n44 ∧ u = [] ∧ (L1.map Rw.v)[0 + p.l.toNat * 1]? = some (Value.slice none 0 0)) ∨ (ok44 = true ∧ 0 < n44 ∧ u ≠ [] ∧ ∃ gq cq, (L1.map Rw.v)[0 + p.l.toNat * 1]? = some (Value.slice (some ⟨gq, 0, none⟩) u.length cq) ∧ OwnR wc44 3 1 gq cq u.length (ivs u)) := by
   rcases Bool.eq_false_or_eq_true ok44 with q | q
   ·rcases Nat.eq_zero_or_pos n44 with q2 | q2
    ·exact .inr (.inl ⟨q, q2⟩)
    ·rcases hat with ⟨q3, q4⟩ | ⟨q3, q4⟩
     ·exact .inr (.inr (.inl ⟨q, q2, q3, q4⟩))
     ·exact .inr (.inr (.inr ⟨q, q2, q3, q4⟩))
   ·exact .inl q
  rcases (show (ok44 = false) ∨ (ok44 = true ∧ n44 = 0) ∨ (ok44 = true ∧ 0 < n44 ∧ u = [] ∧ (L1.map Rw.v)[0 + p.l.toNat * 1]? = some (Value.slice none 0 0)) ∨ (ok44 = true ∧ 0 < n44 ∧ u ≠ [] ∧ ∃ gq cq, (L1.map Rw.v)[0 + p.l.toNat * 1]? = some (Value.slice (some ⟨gq, 0, none⟩) u.length cq) ∧ OwnR wc44 3 1 gq cq u.length (ivs u)) from hcase) with ho | ⟨ho, hn0⟩ | ⟨ho, hn0, hu0, hc⟩ | ⟨ho, hn0, hu0, gq, cq2, hc, hOq⟩
  ·
   refine rgn 24 <| sd ww [.as (.bool false), .p, .no, .no, .no, .p, .p, .no, .no, .no, .no, .no, .no, .no, .no, .no, .no, .no, .no, .no, .no, .no, .no, .p] [Value.bool ok44 = .bool false] [(48, .bool false)] [] 24 0 hS (.c (by rw [ho]) .nil) fun a hS => sge hK53 ?_
   refine cond_f hS rfl ?_
   refine wpIn_skip <| inBlock_normal <| hK13 _ _ <| rgn 2 <| sd ww [.as (I6 (↑i + 1)), .p] [_] [(14, I6 (↑i + 1))] [] 2 0 hS (as6 (↑i + 1)) fun a hS => seg_end ?_
   exact ⟨(i + 1, L1, R1, gr), ⟨hS.kp [(0, Sl g S.ns.length cp), (2, (Pv mb)), (12, S.pv), (13, I6 S.ps.length), (14, I6 (↑i + 1)), (6, .bool gr)], hE52, by omega, hG51, hP.skip (.of hpi (.inl fun ⟨q1, q2, _⟩ => hM44.no ho ⟨q1, q2⟩))⟩, by simp only; omega⟩
  ·
   refine rgn 24 <| sd ww [.as (.bool true), .p, .p, .p, .as (.bool false), .p, .p, .no, .no, .no, .no, .no, .no, .no, .no, .no, .no, .no, .no, .no, .no, .no, .no, .p] [Value.bool ok44 = .bool true, Value.bool (decide ((↑n44 : Int) > 0)) = .bool false] [(48, .bool false)] [] 24 0 hS (.c (by rw [ho]) (.c (as_f (by omega)) .nil)) fun a hS => sge hK53 ?_
   refine cond_f hS rfl ?_
   refine wpIn_skip <| inBlock_normal <| hK13 _ _ <| rgn 2 <| sd ww [.as (I6 (↑i + 1)), .p] [_] [(14, I6 (↑i + 1))] [] 2 0 hS (as6 (↑i + 1)) fun a hS => seg_end ?_
   exact ⟨(i + 1, L1, R1, gr), ⟨hS.kp [(0, Sl g S.ns.length cp), (2, (Pv mb)), (12, S.pv), (13, I6 S.ps.length), (14, I6 (↑i + 1)), (6, .bool gr)], hE52, by omega, hG51, hP.skip (.of hpi (.inl fun ⟨_, _, q3⟩ => q3 (by rw [← (hM44.yes ho).1]; exact List.eq_nil_of_length_eq_zero (by omega))))⟩, by simp only; omega⟩
  ·
   refine rgn 24 <| sd ww [.as (.bool true), .p, .p, .p, .as (.bool true), .p, .p, .p, .p, .ld (I6 p.l), .run ((Po g (0 + p.l.toNat * 1))), .ld (.slice none 0 0), .p, .p, .no, .no, .no, .no, .no, .no, .no, .no, .p, .p] [Value.bool ok44 = .bool true, Value.bool (decide ((↑n44 : Int) > 0)) = .bool true, _, Rv (Instr.indexAt 37 (Sl g S.ns.length cp) (I6 p.l)) ((Po g (0 + p.l.toNat * 1))) wc44, wc44.cell? ⟨g, 0 + p.l.toNat * 1, none⟩ = some (.slice none 0 0)] [(48, .bool true)] [] 24 0 hS (.c (by rw [ho]) (.c (as_t (by omega)) (hB50.k 0 (.c (ixz 51 1 p.l) (.c ((hB49).cellAt _ (hc)) .nil))))) fun a hS => sge hK53 ?_
   refine cond_t hS rfl ?_
   refine rgn 7 <| sd ww [.p, .p, .ld (I6 p.l), .p, .run ((Po g (0 + p.l.toNat * 1)))] [_, Rv (Instr.indexAt 37 (Sl g S.ns.length cp) (I6 p.l)) ((Po g (0 + p.l.toNat * 1))) wc44] [(52, .slice bs44 n44 cq44), (53, (Po g (0 + p.l.toNat * 1)))] [] 5 2 hS (hB50.k 0 (.c (ixz 51 1 p.l) .nil)) fun a hS => eff_store_own ww (r := 1) (b := g) (off := 0 + p.l.toNat * 1) (u := Value.slice bs44 n44 cq44) (xs := (L1.map Rw.v)) hS (by kernel_rfl) hB49 (by omega) fun a ws54 hOs54 hEs54 hsz54 hS => ?_
   have hE60 : Ext [g] w ws54 := hE52.trans hEs54 (fun b hb => by simp at hb; subst hb; exact .inl (by simp))
   refine sg ww [.p] [] [(0, Sl g S.ns.length cp), (2, (Pv mb)), (12, S.pv), (13, I6 S.ps.length), (14, I6 i), (6, .bool true), (15, .bool (decide ((↑i : Int) < ↑S.ps.length))), (8, (Pv wl5.heap.size)), (9, .slice bs44 n44 cq44), (10, .bool ok44), (48, .bool true)] 7 0 hS .nil fun a hS => seg_end <| inBlock_normal <| hK13 _ _ <| rgn 2 <| sd ww [.as (I6 (↑i + 1)), .p] [_] [(14, I6 (↑i + 1))] [] 2 0 hS (as6 (↑i + 1)) fun a hS => seg_end ?_
   have hne : zs44 ≠ [] := fun q => by rw [q] at hnz; simp at hnz; omega
   have hYn := Yr.put (j := p.l.toNat) hG51 hOs54 hEs54 hRn44 hNc (fun q => absurd q hne) (fun k x hx q hq => Fam.lie (Yr.fam hG41) hx q hq)
   have hS2 := hP.snd.set hI (V0_nil hV (by omega)) hpm (hM44.yes ho).1 (hM44.yes ho).2.2 (hM44.yes ho).2.1
   have hrl : p.l.toNat < R1.length := by omega
   have hle := (hS2.snd p.l.toNat (by rw [rF_set _ hrl, if_pos rfl]; exact hne)).2.2
   rw [rF_set _ hrl, if_pos rfl] at hle
   exact ⟨(i + 1, _, _, true), ⟨hS.kp [(0, Sl g S.ns.length cp), (2, (Pv mb)), (12, S.pv), (13, I6 S.ps.length), (14, I6 (↑i + 1)), (6, .bool true)], hE60, by omega, hYn, hP.set hS2 (ysMu_set hrl hne (hM44.yes ho).2.1 hle (.inl (by rw [rF_at hu, hu0])))⟩, by simp only; omega⟩
  ·
   have hul : u.length = vf 4097 vs p.l.toNat := by have := (hP.snd.snd p.l.toNat (by rw [rF_at hu]; exact hu0)).2.1; rw [rF_at hu] at this; exact this
   have hvle := hV.le p.l.toNat
   have hzl := (hM44.yes ho).2.1
   refine rgn 24 <| sd ww [.as (.bool true), .p, .p, .p, .as (.bool true), .p, .p, .p, .p, .ld (I6 p.l), .run ((Po g (0 + p.l.toNat * 1))), .ld (Sl gq u.length cq2), .p, .p, .p, .p, .p, .ld (I6 p.l), .run ((Po g (0 + p.l.toNat * 1))), .ld (Sl gq u.length cq2)] [Value.bool ok44 = .bool true, Value.bool (decide ((↑n44 : Int) > 0)) = .bool true, _, Rv (Instr.indexAt 37 (Sl g S.ns.length cp) (I6 p.l)) ((Po g (0 + p.l.toNat * 1))) wc44, wc44.cell? ⟨g, 0 + p.l.toNat * 1, none⟩ = some (Sl gq u.length cq2), _, Rv (Instr.indexAt 37 (Sl g S.ns.length cp) (I6 p.l)) ((Po g (0 + p.l.toNat * 1))) wc44, wc44.cell? ⟨g, 0 + p.l.toNat * 1, none⟩ = some (Sl gq u.length cq2)] [(31, .bool true), (38, .bool false), (39, .slice bs44 n44 cq44), (44, Sl gq u.length cq2)] [] 20 4 hS (.c (by rw [ho]) (.c (as_t (by omega)) (hB50.k 0 (.c (ixz 51 1 p.l) (.c ((hB49).cellAt _ (hc)) (hB50.k 0 (.c (ixz 51 1 p.l) (.c ((hB49).cellAt _ (hc)) .nil)))))))) fun a hS => ecl 3 (some 45) hS Tryd.call97 #[.slice bs44 n44 cq44, Sl gq u.length cq2] (compare_any hRn44.own.rd hOq.v.rd (by omega) (by omega)) ?_
   rintro _ wc61 ⟨z61, rfl, hcz61, hEc61⟩
   refine ⟨_, rfl, fun a hS => ?_⟩
   have hB66 := hB49.ext hEc61 (by simp)
   have hB67 := hB50.ext hEc61 (by simp)
   have hG68 : Yr N wc61 g cp S.ns.length L1 R1 := hG51.ext0 hEc61
   have hE69 := hE52.trans0 hEc61
   refine sd ww [.p, .p, .p] [] [(48, .bool (decide ((z61 : Int) < 0)))] [] 24 0 hS .nil fun a hS => sge hK53 ?_
   refine cond_b hS rfl (fun hb70 => ?_) (fun hb70 => ?_)
   ·
    replace hb70 := of_decide_eq_true hb70
    have hlx := hcz61.1 (by simpa using hb70)
    have hRz : RowN w32.heap.size wc61 bs44 n44 cq44 zs44 := ⟨hRn44.own.ext0' hEc61, hRn44.new⟩
    refine rgn 7 <| sg ww [.p, .p, .ld (I6 p.l), .p, .run ((Po g (0 + p.l.toNat * 1)))] [_, Rv (Instr.indexAt 37 (Sl g S.ns.length cp) (I6 p.l)) ((Po g (0 + p.l.toNat * 1))) wc61] [(0, Sl g S.ns.length cp), (2, (Pv mb)), (12, S.pv), (13, I6 S.ps.length), (14, I6 i), (6, .bool gr), (15, .bool (decide ((↑i : Int) < ↑S.ps.length))), (8, (Pv wl5.heap.size)), (9, .slice bs44 n44 cq44), (10, .bool ok44), (48, .bool (decide ((z61 : Int) < 0))), (52, .slice bs44 n44 cq44), (53, (Po g (0 + p.l.toNat * 1)))] 5 2 hS (hB67.k 0 (.c (ixz 51 1 p.l) .nil)) fun a hS => eff_store_own ww (r := 1) (b := g) (off := 0 + p.l.toNat * 1) (u := Value.slice bs44 n44 cq44) (xs := (L1.map Rw.v)) hS (by kernel_rfl) hB66 (by omega) fun a ws71 hOs71 hEs71 hsz71 hS => ?_
    have hE77 : Ext [g] w ws71 := hE69.trans hEs71 (fun b hb => by simp at hb; subst hb; exact .inl (by simp))
    refine sd ww [.p] [] [(6, .bool true)] [] 7 0 hS .nil fun a hS => seg_end <| inBlock_normal <| hK13 _ _ <| rgn 2 <| sd ww [.as (I6 (↑i + 1)), .p] [_] [(14, I6 (↑i + 1))] [] 2 0 hS (as6 (↑i + 1)) fun a hS => seg_end ?_
    have hne : zs44 ≠ [] := fun q => by rw [q] at hnz; simp at hnz; omega
    have hYn := Yr.put (j := p.l.toNat) hG68 hOs71 hEs71 hRz hNc (fun q => absurd q hne) (fun k x hx q hq => Fam.lie (Yr.fam hG41) hx q hq)
    have hS2 := hP.snd.set hI (V0_nil hV (by omega)) hpm (hM44.yes ho).1 (hM44.yes ho).2.2 (hM44.yes ho).2.1
    have hrl : p.l.toNat < R1.length := by omega
    have hle := (hS2.snd p.l.toNat (by rw [rF_set _ hrl, if_pos rfl]; exact hne)).2.2
    rw [rF_set _ hrl, if_pos rfl] at hle
    exact ⟨(i + 1, _, _, true), ⟨hS.kp [(0, Sl g S.ns.length cp), (2, (Pv mb)), (12, S.pv), (13, I6 S.ps.length), (14, I6 (↑i + 1)), (6, .bool true)], hE77, by omega, hYn, hP.set hS2 (ysMu_set hrl hne (hM44.yes ho).2.1 hle (.inr ⟨by rw [rF_at hu]; exact hul, by rw [rF_at hu]; exact hlx⟩))⟩, by simp only; omega⟩
   ·
    replace hb70 := of_decide_eq_false hb70
    have hlx : ¬lex zs44 u := fun q => absurd (hcz61.2 q) (by simpa using hb70)
    refine wpIn_skip <| inBlock_normal <| hK13 _ _ <| rgn 2 <| sg ww [.as (I6 (↑i + 1)), .p] [_] [(0, Sl g S.ns.length cp), (2, (Pv mb)), (12, S.pv), (13, I6 S.ps.length), (14, I6 (↑i + 1)), (6, .bool gr), (15, .bool (decide ((↑i : Int) < ↑S.ps.length))), (8, (Pv wl5.heap.size)), (9, .slice bs44 n44 cq44), (10, .bool ok44), (48, .bool (decide ((z61 : Int) < 0)))] 2 0 hS (as6 (↑i + 1)) fun a hS => seg_end ?_
    exact ⟨(i + 1, L1, R1, gr), ⟨hS.kp [(0, Sl g S.ns.length cp), (2, (Pv mb)), (12, S.pv), (13, I6 S.ps.length), (14, I6 (↑i + 1)), (6, .bool gr)], hE69, by omega, hG68, hP.skip (.of hpi (.inr ⟨by rw [rF_at hu]; exact hu0, by rw [rF_at hu, ← (hM44.yes ho).1]; exact lex_leq (hzl.trans hul.symm) hlx⟩))⟩, by simp only; omega⟩
 ·
  replace hb12 := of_decide_eq_false hb12
  have hEl5 : Ext [g] w wl5 := hE0.trans hXl5 (fun b hbM => by simp at hbM; rw [hbM]; exact .inl (by simp))
  have hie : i = S.ps.length := by omega
  refine xt2 <| hK3 _ _ <| sdq 4 [.p, .p, .p, .p] [] [(4, Sl g S.ns.length cp), (5, .bool gr)] [] hS .nil fun a hS => wpIn_ret ?_
  refine ret2 hS Tryd.results96 rfl rfl ?_
  exact ⟨_, _, gr, rfl, hY1, hie ▸ hP, hEl5⟩
end Go.Proofs.YtkkpghlcmcaoiaaDoor
