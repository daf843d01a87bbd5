import Derived.Test.YtkkpghlcmcaoiaaDoorKb
import Derived.Test.YtkkpghlcmcaoiaaDoorS72
namespace Go.Proofs.YtkkpghlcmcaoiaaDoor
open Go.Vc Go.Gm
section
variable {N Nt : Nat} {w w' : World} {K : Kx} {S : Sp} {T : Td} {M P : List Nat}
theorem fam_fam {e e' : TypeId} {D D' : Nat → Prop} {L L' : List Rw} (h : Fam w e 1 D L) (h' : Fam w e' 1 D' L') (he : e ≠ e') : ∀ x ∈ bl L', x ∉ bl L := fun x hx => by
 obtain ⟨k, y, hy, hb⟩ := bl_of hx
 exact h.notV (h'.own k y hy) he x hb
theorem Kb.start : Kb w.heap.size w ⟨none, 0, 0, [], none, 0, 0, [], none, 0, 0, [], none, 0, 0, []⟩ :=
 ⟨Ct.nil, Ct.nil, Ct.nil, Ct.nil, by simp [oa], by simp [oa], by simp [oa], by simp [bl], Nat.le_refl _⟩
theorem Kb.grownA (h : Kb N w K) (hn : K.an ≤ 4000000000) : Calls Tryd.prog 42 #[.slice K.ab K.an K.ac] w fun e w' => e = .returned (.bool true) ∧ Ct 51 3 N w' K.hb K.hn K.hc K.LH ∧ Ct 37 51 N w' K.ob K.on K.oc K.LO ∧ Ct 31 4 N w' K.eb K.en K.ec K.LE ∧ Ext (bl K.LA) w w' := by
 have hl := h.a.len
 have ho := h.a.own
 rw [← hl] at ho
 have hg := GrownInts_any h.a.fam.selfD ho (by omega) h.a.mx
 rw [hl] at hg
 refine hg.mono ?_
 rintro e w' ⟨h1, hE⟩
 exact ⟨h1, h.h.ext hE (fun x hx => h.a.fam.notV h.h.own (by decide) x (by rw [ob_oa]; exact hx)) (fun x hx hm => h.rr x hm hx),
  h.o.ext hE (fun x hx => h.a.fam.notV h.o.own (by decide) x (by rw [ob_oa]; exact hx)) (fam_fam h.a.fam h.o.fam (by decide)),
  h.e.ext hE (fun x hx => h.a.fam.notV h.e.own (by decide) x (by rw [ob_oa]; exact hx)) (fam_fam h.a.fam h.e.fam (by decide)), hE⟩
theorem Ct.grownO (h : Ct 37 51 N w K.ob K.on K.oc K.LO) (hh : Ct 51 3 N w K.hb K.hn K.hc K.LH) (he : Ct 31 4 N w K.eb K.en K.ec K.LE) (hho : ∀ x ∈ oa K.hb, x ∉ bl K.LO) (hn : K.on ≤ 4000000000) :
  Calls Tryd.prog 43 #[.slice K.ob K.on K.oc] w fun e w' => e = .returned (.bool true) ∧ Ct 51 3 N w' K.hb K.hn K.hc K.LH ∧ Ct 31 4 N w' K.eb K.en K.ec K.LE ∧ Ext (bl K.LO) w w' := by
 have hl := h.len
 have ho := h.own
 rw [← hl] at ho
 have hg := GrownLists_any h.fam.selfD ho (by omega) h.mx
 rw [hl] at hg
 refine hg.mono ?_
 rintro e w' ⟨h1, hE⟩
 exact ⟨h1, hh.ext hE hho (fam_fam h.fam hh.fam (by decide)), he.ext hE (fun x hx => h.fam.notV he.own (by decide) x (by rw [ob_oa]; exact hx)) (fam_fam h.fam he.fam (by decide)), hE⟩
theorem Ct.grownE (h : Ct 31 4 N w K.eb K.en K.ec K.LE) (hh : Ct 51 3 N w K.hb K.hn K.hc K.LH) (hn : K.en ≤ 4000000000) :
  Calls Tryd.prog 44 #[.slice K.eb K.en K.ec] w fun e w' => e = .returned (.bool true) ∧ Ct 51 3 N w' K.hb K.hn K.hc K.LH ∧ Ext (bl K.LE) w w' := by
 have hl := h.len
 have ho := h.own
 rw [← hl] at ho
 have hg := GrownBools_any h.fam.selfD ho (by omega) h.mx
 rw [hl] at hg
 refine hg.mono ?_
 rintro e w' ⟨h1, hE⟩
 exact ⟨h1, hh.ext hE (fun x hx => h.fam.notV hh.own (by decide) x (by rw [ob_oa]; exact hx)) (fam_fam h.fam hh.fam (by decide)), hE⟩
theorem TdOk.ge (hT : TdOk S Nt w T) : ∀ x ∈ T.blks, Nt ≤ x := fun x hx => by
 rcases List.mem_cons.1 hx with h1 | h1
 ·rw [h1]; exact hT.ne
 ·rcases List.mem_append.1 h1 with h1 | h1
  ·exact hT.lf.ge x h1
  ·rcases List.mem_append.1 h1 with h1 | h1
   ·exact hT.lw.ge x h1
   ·exact hT.ly.ge x h1
theorem TdOk.extM (h : TdOk S Nt w T) (hE : Ext M w w') (hM : ∀ x ∈ M, x < Nt) : TdOk S Nt w' T := h.extD hE fun x hx hm => by have := h.ge x hx; have := hM x hm; omega
theorem Ct.extN {T e : TypeId} {b : Option Addr} {n c : Nat} {L : List Rw} {w1 : World} (h : Ct T e N w1 b n c L) (h0 : Ct T e N w b n c L) (hE : Ext M w1 w') (hM : ∀ x ∈ M, w.heap.size ≤ x) : Ct T e N w' b n c L :=
 h.ext hE (fun x hx hm => by have := h0.lo x hx; have := hM x hm; omega) (fun x hx hm => by have := h0.fam.blt x hx; have := hM x hm; omega)
theorem Kb.extN {w1 : World} (h : Kb N w1 K) (h0 : Kb N w K) (hE : Ext M w1 w') (hM : ∀ x ∈ M, w.heap.size ≤ x) : Kb N w' K :=
 ⟨h.a.extN h0.a hE hM, h.h.extN h0.h hE hM, h.o.extN h0.o hE hM, h.e.extN h0.e hE hM, h.ah, h.ao, h.ho, h.rr, Nat.le_trans h.n0 hE.size⟩
theorem Kt.extN {w1 : World} (h : Kt S Nt w1 T K P) (h0 : Kt S Nt w T K P) (hE : Ext M w1 w') (hM : ∀ x ∈ M, w.heap.size ≤ x) : Kt S Nt w' T K P :=
 ⟨h.td.extD hE fun x hx hm => by have := h0.td.lie x hx; have := hM x hm; omega, h.ta, h.tl, h.te⟩
def HW (S : Sp) (T : Td) (L : List Rw) : Prop := ∀ (j : Nat) (x : Rw), L[j]? = some x → ∃ p lw l, S.ps[j]? = some p ∧ T.wl[p.l.toNat]? = some lw ∧ HdsR S p.r (ints lw) l ∧ x.n = l.length ∧ x.xs = ivs l
theorem HW.nil : HW S T [] := fun j x h => by simp at h
theorem HW.snoc {L : List Rw} (h : HW S T L) {j : Nat} (hj : L.length = j) {p : Pd} {lw l : List Nat} {v : Value} {n : Nat} (hn : l.length = n) (hp : S.ps[j]? = some p) (hlw : T.wl[p.l.toNat]? = some lw) (hl : HdsR S p.r (ints lw) l) : HW S T (L ++ [⟨v, n, ivs l⟩]) := fun k x hx => by
 rcases Nat.lt_or_ge k L.length with hk | hk
 ·rw [List.getElem?_append_left hk] at hx; exact h k x hx
 ·rw [List.getElem?_append_right hk] at hx
  obtain ⟨h1, h2⟩ := List.getElem?_eq_some_iff.1 hx
  simp only [List.length_singleton] at h1
  obtain rfl : k = j := by omega
  simp only [show k - L.length = 0 by omega, List.getElem_cons_zero] at h2
  subst h2
  exact ⟨p, lw, l, hp, hlw, hl, hn.symm, rfl⟩
theorem HdsR.ext {r : List Sy} {ts : List Int} {l l' : List Nat} (h : HdsR S r ts l) (h' : HdsR S r ts l') : l = l' := Rising.ext h.rising h'.rising fun t => (h.mem t).trans (h'.mem t).symm
theorem Ct.sameH {b : Option Addr} {n c : Nat} {L : List Rw} (h : Ct 51 3 N w b n c L) (hW : HW S T L) {j : Nat} (hj : j < n) {p : Pd} {lw l : List Nat} (hp : S.ps[j]? = some p) (hlw : T.wl[p.l.toNat]? = some lw) (hl : HdsR S p.r (ints lw) l) : ∃ u, (L.map Rw.v)[j]? = some u ∧ RdV w 1 u l.length (ivs l) := by
 have hn := h.len
 obtain ⟨x, hx⟩ : ∃ x, L[j]? = some x := ⟨_, List.getElem?_eq_getElem (by omega)⟩
 obtain ⟨p', lw', l', h1, h2, h3, h4, h5⟩ := hW j x hx
 rw [hp] at h1; cases h1
 rw [hlw] at h2; cases h2
 obtain rfl := hl.ext h3
 refine ⟨x.v, by rw [List.getElem?_map, hx]; rfl, ?_⟩
 rw [← h4, ← h5]
 exact (h.fam.own j x hx).rd
theorem Lsts.nmax {bs : Option Addr} {n cp : Nat} {L : List Rw} {ls : List (List Nat)} (h : Lsts N w bs n cp L ls) (hm : ∀ l ∈ ls, l.length ≤ 1048576) : ∀ x ∈ L, x.n ≤ 1000000000 := fun x hx => by
 obtain ⟨k, hk⟩ := List.getElem?_of_mem hx
 obtain ⟨l, hl⟩ : ∃ l, ls[k]? = some l := ⟨_, List.getElem?_eq_getElem (by have := h.len; have := (List.getElem?_eq_some_iff.1 hk).1; omega)⟩
 have he := congrArg (fun l => l[k]?) h.is
 simp only [List.getElem?_map, hk, hl, Option.map_some, Option.some.injEq, Prod.mk.injEq] at he
 have := hm l (List.mem_of_getElem? hl)
 omega
theorem ap_new {v : Value} (h0 : Kb N w K) (ht0 : Kt S Nt w T K P) (hP : ∀ x ∈ P, x ∈ T.blks) (hlo : ∀ x ∈ ob v, w.heap.size ≤ x) : ∀ x ∈ ob v, x ∉ bl K.LA ∧ x ∉ bl K.LH ∧ x ∉ P := fun x hx => by
 have h1 := hlo x hx
 refine ⟨fun h => ?_, fun h => ?_, fun h => ?_⟩
 ·have := h0.a.fam.blt x h; omega
 ·have := h0.h.fam.blt x h; omega
 ·have := ht0.td.lie x (hP x h); omega
theorem Td.pin : ∀ x ∈ bl T.fL ++ (bl T.wL ++ bl T.yL), x ∈ T.blks := fun x hx => by
 simp only [List.mem_append] at hx
 simp only [Td.blks, List.mem_cons, List.mem_append]
 rcases hx with h | h | h <;> simp [h]
theorem fresh_some {b : Option Addr} {n c g m : Nat} (hF : Fresh m (ob (.slice b n c)) [g]) : ∀ x ∈ oa (some ⟨g, 0, none⟩), x ∈ oa b ∨ m ≤ x := fresh_oa hF
theorem fam_one {v : Value} {n : Nat} {xs : List Value} {e : TypeId} (hO : OwnV w e 1 v n xs) (hN : ∀ x ∈ ob v, N ≤ x) : Fam w e 1 (fun x => N ≤ x) [⟨v, n, xs⟩] := Fam.nil.snoc hO hN fun k x hx => by simp at hx
theorem Kt.headH (h : Kt S Nt w T K P) (hK : Kb N w K) {v : Value} {n g ca : Nat} {xs : List Value} (hO1 : OwnV w 3 1 v n xs) (hN1 : ∀ x ∈ ob v, N ≤ x) (hap : ∀ x ∈ ob v, x ∉ bl K.LA ∧ x ∉ bl K.LH ∧ x ∉ P) (hn : n ≤ 1000000000)
  (hE : Ext (ob (.slice K.hb K.hn K.hc)) w w') (hO : OwnR w' 51 1 g ca (K.hn + 1) (K.LH.map Rw.v ++ [v])) (hF : Fresh w.heap.size (ob (.slice K.hb K.hn K.hc)) [g]) :
  Kb N w' { K with hb := some ⟨g, 0, none⟩, hn := K.hn + 1, hc := ca, LH := K.LH ++ [⟨v, n, xs⟩] } ∧ Kt S Nt w' T { K with hb := some ⟨g, 0, none⟩, hn := K.hn + 1, hc := ca, LH := K.LH ++ [⟨v, n, xs⟩] } P :=
 ⟨hK.pushH hE (fam_one hO1 hN1) (fun x hx => by simp at hx; rw [hx]; exact hn) (fun x hx => by rw [bl_one] at hx; exact ⟨(hap x hx).1, (hap x hx).2.1⟩) hO.v (fresh_some hF),
  h.pushH hK hE (fresh_some hF) fun x hx hm => by rw [bl_one] at hm; exact (hap x hm).2.2 hx⟩
theorem Kt.headA (h : Kt S Nt w T K P) (hK : Kb N w K) {v : Value} {n g ca : Nat} {xs : List Value} (hO1 : OwnV w 3 1 v n xs) (hN1 : ∀ x ∈ ob v, N ≤ x) (hap : ∀ x ∈ ob v, x ∉ bl K.LA ∧ x ∉ bl K.LH ∧ x ∉ P) (hn : n ≤ 1000000000)
  (hE : Ext (ob (.slice K.ab K.an K.ac)) w w') (hO : OwnR w' 51 1 g ca (K.an + 1) (K.LA.map Rw.v ++ [v])) (hF : Fresh w.heap.size (ob (.slice K.ab K.an K.ac)) [g]) :
  Kb N w' { K with ab := some ⟨g, 0, none⟩, an := K.an + 1, ac := ca, LA := K.LA ++ [⟨v, n, xs⟩] } ∧ Kt S Nt w' T { K with ab := some ⟨g, 0, none⟩, an := K.an + 1, ac := ca, LA := K.LA ++ [⟨v, n, xs⟩] } P :=
 ⟨hK.pushA hE (fam_one hO1 hN1) (fun x hx => by simp at hx; rw [hx]; exact hn) (fun x hx => by rw [bl_one] at hx; exact ⟨(hap x hx).1, (hap x hx).2.1⟩) hO.v (fresh_some hF),
  h.pushA hK hE (fresh_some hF) (fun _ h => h) fun x hx hm => by rw [bl_one] at hm; exact (hap x hm).2.2 hx⟩
section
variable {bs : Option Addr} {cp : Nat}
theorem fresh_apd {L2 : List Rw} {b : Option Addr} {n c k : Nat} {xs : List Value} (hA : Apd w w' 51 1 (.slice b n c) bs cp n k xs (L2.map Rw.v)) : ∀ x ∈ oa bs, x ∈ oa b ∨ w.heap.size ≤ x := fun x hx => by
 have := hA.fresh x (by rw [ob_oa]; exact hx)
 rw [ob_oa] at this
 exact this
theorem Kt.rowF (h : Kt S Nt w T K (bl T.fL ++ (bl T.wL ++ bl T.yL))) (hK : Kb N w K) (hN : N ≤ Nt) (hA : Apd w w' 51 1 (.slice K.ab K.an K.ac) bs cp K.an S.ns.length (K.LA.map Rw.v) (T.fL.map Rw.v)) :
  Kb N w' { K with ab := bs, an := K.an + S.ns.length, ac := cp, LA := K.LA ++ T.fL } ∧ Kt S Nt w' T { K with ab := bs, an := K.an + S.ns.length, ac := cp, LA := K.LA ++ T.fL } (bl T.wL ++ bl T.yL) :=
 ⟨hK.pushA hA.ext (h.td.lf.fam.mono fun k x hx b hb => Nat.le_trans hN (h.td.lf.fam.new k x hx b hb)) (h.td.lf.nmax h.td.max.1) (fun x hx => h.tl x (by simp [hx])) hA.own (fresh_apd hA),
  h.pushA hK hA.ext (fresh_apd hA) (fun x hx => List.mem_append_right _ hx) fun x hx hm => by
  rcases List.mem_append.1 hx with hx | hx
  ·exact h.td.afw x (List.mem_append_right _ hm) (List.mem_append_right _ hx)
  ·exact h.td.afy x (List.mem_append_right _ hm) (List.mem_append_right _ hx)⟩
theorem Kt.rowW (h : Kt S Nt w T K (bl T.wL ++ bl T.yL)) (hK : Kb N w K) (hN : N ≤ Nt) (hA : Apd w w' 51 1 (.slice K.ab K.an K.ac) bs cp K.an S.ns.length (K.LA.map Rw.v) (T.wL.map Rw.v)) :
  Kb N w' { K with ab := bs, an := K.an + S.ns.length, ac := cp, LA := K.LA ++ T.wL } ∧ Kt S Nt w' T { K with ab := bs, an := K.an + S.ns.length, ac := cp, LA := K.LA ++ T.wL } (bl T.yL) :=
 ⟨hK.pushA hA.ext (h.td.lw.fam.mono fun k x hx b hb => Nat.le_trans hN (h.td.lw.fam.new k x hx b hb)) (h.td.lw.nmax h.td.max.2.1) (fun x hx => h.tl x (by simp [hx])) hA.own (fresh_apd hA),
  h.pushA hK hA.ext (fresh_apd hA) (fun x hx => List.mem_append_right _ hx) fun x hx hm => h.td.awy x (List.mem_append_right _ hm) (List.mem_append_right _ hx)⟩
theorem Kt.rowY (h : Kt S Nt w T K (bl T.yL)) (hK : Kb N w K) (hN : N ≤ Nt) (hA : Apd w w' 51 1 (.slice K.ab K.an K.ac) bs cp K.an T.yn (K.LA.map Rw.v) (T.yL.map Rw.v)) :
  Kb N w' { K with ab := bs, an := K.an + T.yn, ac := cp, LA := K.LA ++ T.yL } ∧ Kt S Nt w' T { K with ab := bs, an := K.an + T.yn, ac := cp, LA := K.LA ++ T.yL } [] :=
 ⟨hK.pushA hA.ext (h.td.ly.fam.mono fun k x hx b hb => Nat.le_trans hN (h.td.ly.fam.new k x hx b hb)) (h.td.ly.nmax h.td.max.2.2) (fun x hx => h.tl x hx) hA.own (fresh_apd hA),
  h.pushA hK hA.ext (fresh_apd hA) (fun x hx => by cases hx) fun x hx => by cases hx⟩
end
theorem Kt.rowO (h : Kt S Nt w T K P) (hK : Kb N w K) (hN : N ≤ Nt) (hnm : S.ns.length ≤ 1048576) {g ca : Nat} (hE : Ext (ob (.slice K.ob K.on K.oc)) w w') (hO : OwnR w' 37 1 g ca (K.on + 3) (K.LO.map Rw.v ++ [.slice T.fb S.ns.length T.fc, .slice T.wb S.ns.length T.wc, .slice T.yb T.yn T.yc])) (hF : Fresh w.heap.size (ob (.slice K.ob K.on K.oc)) [g]) :
  Kb N w' { K with ob := some ⟨g, 0, none⟩, on := K.on + 3, oc := ca, LO := K.LO ++ Td.rows S T } ∧ Kt S Nt w' T { K with ob := some ⟨g, 0, none⟩, on := K.on + 3, oc := ca, LO := K.LO } [] := by
 have hy := h.td.ynm hnm
 refine ⟨hK.pushO hE (h.rows hN) (fun x hx => ?_) (fun x hx => ?_) hO.v (fresh_some hF), h.td.extO hK.o.own hE (by decide) (by decide) (fun he => by cases he), h.ta, (fun x hx => by cases hx), h.te⟩
 ·simp only [Td.rows, List.mem_cons, List.not_mem_nil, or_false] at hx
  rcases hx with rfl | rfl | rfl
  ·show S.ns.length ≤ _; omega
  ·show S.ns.length ≤ _; omega
  ·show T.yn ≤ _; omega
 ·rw [Td.rows_bl] at hx
  exact ⟨(h.ta x hx).2.2, (h.ta x hx).1, (h.ta x hx).2.1⟩
theorem Kb.rowE (hK : Kb N w K) (hT : TdOk S Nt w T) (hte : T.eg ∉ bl K.LE) (hN : N ≤ Nt) (hnm : S.ns.length ≤ 1048576) {g ca : Nat} (hE : Ext (ob (.slice K.eb K.en K.ec)) w w') (hO : OwnR w' 31 1 g ca (K.en + 1) (K.LE.map Rw.v ++ [.slice (some ⟨T.eg, 0, none⟩) S.ns.length S.ns.length])) (hF : Fresh w.heap.size (ob (.slice K.eb K.en K.ec)) [g]) :
  Kb N w' { K with eb := some ⟨g, 0, none⟩, en := K.en + 1, ec := ca, LE := K.LE ++ [⟨.slice (some ⟨T.eg, 0, none⟩) S.ns.length S.ns.length, S.ns.length, bls T.es⟩] } :=
 hK.pushE hE (fam_one hT.re.v fun x hx => by have hx : x = T.eg := (by simpa [ob] using hx); rw [hx]; exact Nat.le_trans hN hT.ne) (fun x hx => by simp at hx; rw [hx]; show S.ns.length ≤ _; omega)
  (fun x hx => by rw [bl_one] at hx; have hx : x = T.eg := (by simpa [ob] using hx); rw [hx]; exact hte) hO.v (fresh_some hF)
theorem GOk.ps (h : GOk S) : 0 < S.ps.length := by
 have hst := h.ix.st
 cases h.pr S.st.toNat (by omega) with
 | mk _ q hm _ _ =>
  obtain ⟨p, hp, _⟩ := g_of hm
  exact List.length_pos_of_mem hp
end
end Go.Proofs.YtkkpghlcmcaoiaaDoor
