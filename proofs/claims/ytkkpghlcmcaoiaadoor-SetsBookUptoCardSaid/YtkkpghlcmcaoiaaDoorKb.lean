import Derived.Test.YtkkpghlcmcaoiaaDoorS71
import Derived.Test.YtkkpghlcmcaoiaaDoorMk
namespace Go.Proofs.YtkkpghlcmcaoiaaDoor
open Go.Vc Go.Gm
theorem _root_.Go.Vc.Fam.app2 {w : World} {e : TypeId} {size : Nat} {D : Nat → Prop} {L1 L2 : List Rw} (h1 : Fam w e size D L1) (h2 : Fam w e size D L2) (hd : ∀ x ∈ bl L2, x ∉ bl L1) : Fam w e size D (L1 ++ L2) := by
 have key : ∀ (k : Nat) (x : Rw), (L1 ++ L2)[k]? = some x → (k < L1.length ∧ L1[k]? = some x) ∨ (L1.length ≤ k ∧ L2[k - L1.length]? = some x) := fun k x hx => by
  rcases Nat.lt_or_ge k L1.length with hk | hk
  ·rw [List.getElem?_append_left hk] at hx; exact .inl ⟨hk, hx⟩
  ·rw [List.getElem?_append_right hk] at hx; exact .inr ⟨hk, hx⟩
 refine ⟨fun k x hx => ?_, fun k x hx => ?_, fun i j x y hij hx hy b hb hb' => ?_⟩
 ·rcases key k x hx with ⟨_, hx⟩ | ⟨_, hx⟩
  ·exact h1.own _ x hx
  ·exact h2.own _ x hx
 ·rcases key k x hx with ⟨_, hx⟩ | ⟨_, hx⟩
  ·exact h1.new _ x hx
  ·exact h2.new _ x hx
 ·rcases key i x hx with ⟨hi, hx⟩ | ⟨hi, hx⟩
  ·rcases key j y hy with ⟨hj, hy⟩ | ⟨hj, hy⟩
   ·exact h1.dj i j x y hij hx hy b hb hb'
   ·exact hd b (bl_mem hy b hb') (bl_mem hx b hb)
  ·rcases key j y hy with ⟨hj, hy⟩ | ⟨hj, hy⟩
   ·exact hd b (bl_mem hx b hb) (bl_mem hy b hb')
   ·exact h2.dj _ _ x y (by omega) hx hy b hb hb'
theorem bl_app (L1 L2 : List Rw) : bl (L1 ++ L2) = bl L1 ++ bl L2 := by simp [bl]
structure Ct (T e : TypeId) (N : Nat) (w : World) (b : Option Addr) (n c : Nat) (L : List Rw) : Prop where
 own : OwnV w T 1 (.slice b n c) n (L.map Rw.v)
 fam : Fam w e 1 (fun x => N ≤ x) L
 new : ∀ x ∈ oa b, N ≤ x
 mx : ∀ x ∈ L, x.n ≤ 1000000000
section
variable {T e T' e' : TypeId} {N n c n' c' : Nat} {w w' w0 : World} {b b' : Option Addr} {L L' L2 : List Rw} {M : List Nat}
theorem Ct.nil : Ct T e N w none 0 0 [] := ⟨OwnV.nil _ _ _, Fam.nil, fun x hx => by simp [oa] at hx, fun x hx => by cases hx⟩
theorem Ct.len (h : Ct T e N w b n c L) : L.length = n := by
 have := h.own.len
 simpa using this
theorem Ct.lo (h : Ct T e N w b n c L) : ∀ x ∈ oa b, x < w.heap.size := fun x hx => h.own.lie x (by rw [ob_oa]; exact hx)
theorem Ct.ext (h : Ct T e N w b n c L) (hE : Ext M w w') (h1 : ∀ x ∈ oa b, x ∉ M) (h2 : ∀ x ∈ bl L, x ∉ M) : Ct T e N w' b n c L :=
 ⟨h.own.ext hE fun x hx => h1 x (by rw [ob_oa] at hx; exact hx), h.fam.ext hE fun k x hx y hy => h2 y (bl_mem hx y hy), h.new, h.mx⟩
theorem Ct.ext0 (h : Ct T e N w b n c L) (hE : Ext [] w w') : Ct T e N w' b n c L := h.ext hE (by simp) (by simp)
theorem Ct.offO (h : Ct T e N w b n c L) {v : Value} {m size : Nat} {t : TypeId} {xs : List Value} (hV : OwnV w t size v m xs) (hT : T ≠ t) : ∀ x ∈ oa b, x ∉ ob v := fun x hx => h.own.disj hV hT x (by rw [ob_oa]; exact hx)
theorem Ct.offL (h : Ct T e N w b n c L) {v : Value} {m size : Nat} {t : TypeId} {xs : List Value} (hV : OwnV w t size v m xs) (he : e ≠ t) : ∀ x ∈ bl L, x ∉ ob v := fun x hx hm => h.fam.notV hV he x hm hx
theorem Ct.push (h : Ct T e N w0 b n c L) (hTe : e ≠ T) (hE0 : Ext [] w0 w) (hE : Ext (ob (.slice b n c)) w w') (hF2 : Fam w e 1 (fun x => N ≤ x) L2) (hd : ∀ x ∈ bl L2, x ∉ bl L) (hm : ∀ x ∈ L2, x.n ≤ 1000000000) {b1 : Option Addr} {ca k : Nat} (hO : OwnV w' T 1 (.slice b1 (n + k) ca) (n + k) (L.map Rw.v ++ L2.map Rw.v)) (hN : N ≤ w.heap.size) (hF : ∀ x ∈ oa b1, x ∈ oa b ∨ w.heap.size ≤ x) : Ct T e N w' b1 (n + k) ca (L ++ L2) := by
 have hb := h.ext0 hE0
 have hs := hb.fam.app2 hF2 hd
 refine ⟨by rw [List.map_append]; exact hO, hs.ext hE fun k x hx => (hs.own k x hx).disj hb.own hTe, fun x hx => ?_, fun x hx => ?_⟩
 ·rcases hF x hx with h2 | h2
  ·exact h.new x h2
  ·exact Nat.le_trans hN h2
 ·rcases List.mem_append.1 hx with hx | hx
  ·exact h.mx x hx
  ·exact hm x hx
theorem fresh_oa {g m : Nat} (hF : Fresh m (ob (.slice b n c)) [g]) : ∀ x ∈ oa (some ⟨g, 0, none⟩), x ∈ oa b ∨ m ≤ x := fun x hx => by
 have hx : x = g := by simpa [oa] using hx
 rw [hx]
 exact (hF g (by simp)).imp (fun h => by rw [ob_oa] at h; exact h) id
end
structure Kx where
 ab : Option Addr
 an : Nat
 ac : Nat
 LA : List Rw
 hb : Option Addr
 hn : Nat
 hc : Nat
 LH : List Rw
 ob : Option Addr
 on : Nat
 oc : Nat
 LO : List Rw
 eb : Option Addr
 en : Nat
 ec : Nat
 LE : List Rw
structure Kb (N : Nat) (w : World) (K : Kx) : Prop where
 a : Ct 51 3 N w K.ab K.an K.ac K.LA
 h : Ct 51 3 N w K.hb K.hn K.hc K.LH
 o : Ct 37 51 N w K.ob K.on K.oc K.LO
 e : Ct 31 4 N w K.eb K.en K.ec K.LE
 ah : ∀ x ∈ oa K.ab, x ∉ oa K.hb
 ao : ∀ x ∈ oa K.ab, x ∉ bl K.LO
 ho : ∀ x ∈ oa K.hb, x ∉ bl K.LO
 rr : ∀ x ∈ bl K.LA, x ∉ bl K.LH
 n0 : N ≤ w.heap.size
section
variable {N : Nat} {w w' w0 : World} {K : Kx} {L2 : List Rw} {b1 : Option Addr} {ca k : Nat}
theorem Kb.ext0 (h : Kb N w K) (hE : Ext [] w w') : Kb N w' K := ⟨h.a.ext0 hE, h.h.ext0 hE, h.o.ext0 hE, h.e.ext0 hE, h.ah, h.ao, h.ho, h.rr, Nat.le_trans h.n0 hE.size⟩
theorem Ct.extT {T e : TypeId} {b : Option Addr} {n c : Nat} {L : List Rw} (h : Ct T e N w b n c L) {d t : Nat} {cs : Array Value} (hE : Ext [d] w w') (hB : Blk w d t cs) (h1 : T ≠ t) (h2 : e ≠ t) : Ct T e N w' b n c L :=
 h.ext hE (fun x hx hm => by simp at hm; exact h.own.ne hB h1 x (by rw [ob_oa]; exact hx) hm.symm) (fun x hx hm => by simp at hm; rw [hm] at hx; exact h.fam.notT hB h2 hx)
theorem Kb.extT (h : Kb N w K) {d t : Nat} {cs : Array Value} (hE : Ext [d] w w') (hB : Blk w d t cs) (h1 : 51 ≠ t) (h2 : 3 ≠ t) (h3 : 37 ≠ t) (h4 : 31 ≠ t) (h5 : 4 ≠ t) : Kb N w' K :=
 ⟨h.a.extT hE hB h1 h2, h.h.extT hE hB h1 h2, h.o.extT hE hB h3 h1, h.e.extT hE hB h4 h5, h.ah, h.ao, h.ho, h.rr, Nat.le_trans h.n0 hE.size⟩
theorem Fam.oneA {T : TypeId} {D : Nat → Prop} : ∀ {L : List Rw}, Fam w T 1 D L → oneAll (L.map Rw.v) = true
 | [], _ => rfl
 | x :: L, h => by
  have ih : oneAll (L.map Rw.v) = true := Fam.oneA (D := D) ⟨fun k y hy => h.own (k + 1) y hy, fun k y hy => h.new (k + 1) y hy, fun i j y z hij hy hz => h.dj (i + 1) (j + 1) y z (by omega) hy hz⟩
  obtain ⟨a, c, h1⟩ := (h.own 0 x rfl).rd.form
  rw [List.map_cons, h1]
  exact ih
theorem _root_.Go.Vc.Fam.selfD {T : TypeId} {size m : Nat} {D : Nat → Prop} {L : List Rw} (h : Fam w T size D L) : Fam w T size (fun b => b ∈ bl L ∨ m ≤ b) L := h.mono fun _ _ hx _ hb => .inl (bl_mem hx _ hb)
theorem bl_one (v : Value) (n : Nat) (xs : List Value) : bl [⟨v, n, xs⟩] = ob v := by simp [bl]
theorem Kb.pushA (h : Kb N w K) (hE : Ext (ob (.slice K.ab K.an K.ac)) w w') (hF2 : Fam w 3 1 (fun x => N ≤ x) L2) (hm : ∀ x ∈ L2, x.n ≤ 1000000000) (hd : ∀ x ∈ bl L2, x ∉ bl K.LA ∧ x ∉ bl K.LH) (hO : OwnV w' 51 1 (.slice b1 (K.an + k) ca) (K.an + k) (K.LA.map Rw.v ++ L2.map Rw.v)) (hF : ∀ x ∈ oa b1, x ∈ oa K.ab ∨ w.heap.size ≤ x) :
  Kb N w' { K with ab := b1, an := K.an + k, ac := ca, LA := K.LA ++ L2 } := by
 have hb := h
 have hn := h.n0
 refine ⟨hb.a.push (by decide) (Ext.refl _ _) hE hF2 (fun x hx => (hd x hx).1) hm hO hn hF, hb.h.ext hE (fun x hx hm => ?_) (hb.h.offL hb.a.own (by decide)), hb.o.ext hE (hb.o.offO hb.a.own (by decide)) (fun x hx hm => ?_), hb.e.ext hE (hb.e.offO hb.a.own (by decide)) (hb.e.offL hb.a.own (by decide)), fun x hx hm => ?_, fun x hx hm => ?_, hb.ho, fun x hx hm => ?_, Nat.le_trans hn hE.size⟩
 ·rw [ob_oa] at hm; exact h.ah x hm hx
 ·rw [ob_oa] at hm; exact h.ao x hm hx
 ·rcases hF x hx with h1 | h1
  ·exact h.ah x h1 hm
  ·have := hb.h.lo x hm; omega
 ·rcases hF x hx with h1 | h1
  ·exact h.ao x h1 hm
  ·have := hb.o.fam.blt x hm; omega
 ·rw [bl_app] at hx
  rcases List.mem_append.1 hx with hx | hx
  ·exact h.rr x hx hm
  ·exact (hd x hx).2 hm
theorem Kb.pushH (h : Kb N w K) (hE : Ext (ob (.slice K.hb K.hn K.hc)) w w') (hF2 : Fam w 3 1 (fun x => N ≤ x) L2) (hm : ∀ x ∈ L2, x.n ≤ 1000000000) (hd : ∀ x ∈ bl L2, x ∉ bl K.LA ∧ x ∉ bl K.LH) (hO : OwnV w' 51 1 (.slice b1 (K.hn + k) ca) (K.hn + k) (K.LH.map Rw.v ++ L2.map Rw.v)) (hF : ∀ x ∈ oa b1, x ∈ oa K.hb ∨ w.heap.size ≤ x) :
  Kb N w' { K with hb := b1, hn := K.hn + k, hc := ca, LH := K.LH ++ L2 } := by
 have hb := h
 have hn := h.n0
 refine ⟨hb.a.ext hE (fun x hx hm => ?_) (hb.a.offL hb.h.own (by decide)), hb.h.push (by decide) (Ext.refl _ _) hE hF2 (fun x hx => (hd x hx).2) hm hO hn hF, hb.o.ext hE (hb.o.offO hb.h.own (by decide)) (fun x hx hm => ?_), hb.e.ext hE (hb.e.offO hb.h.own (by decide)) (hb.e.offL hb.h.own (by decide)), fun x hx hm => ?_, hb.ao, fun x hx hm => ?_, fun x hx hm => ?_, Nat.le_trans hn hE.size⟩
 ·rw [ob_oa] at hm; exact h.ah x hx hm
 ·rw [ob_oa] at hm; exact h.ho x hm hx
 ·rcases hF x hm with h1 | h1
  ·exact h.ah x hx h1
  ·have := hb.a.lo x hx; omega
 ·rcases hF x hx with h1 | h1
  ·exact h.ho x h1 hm
  ·have := hb.o.fam.blt x hm; omega
 ·rw [bl_app] at hm
  rcases List.mem_append.1 hm with hm | hm
  ·exact h.rr x hx hm
  ·exact (hd x hm).1 hx
theorem Kb.pushO (h : Kb N w K) (hE : Ext (ob (.slice K.ob K.on K.oc)) w w') (hF2 : Fam w 51 1 (fun x => N ≤ x) L2) (hm : ∀ x ∈ L2, x.n ≤ 1000000000) (hd : ∀ x ∈ bl L2, x ∉ bl K.LO ∧ x ∉ oa K.ab ∧ x ∉ oa K.hb) (hO : OwnV w' 37 1 (.slice b1 (K.on + k) ca) (K.on + k) (K.LO.map Rw.v ++ L2.map Rw.v)) (hF : ∀ x ∈ oa b1, x ∈ oa K.ob ∨ w.heap.size ≤ x) :
  Kb N w' { K with ob := b1, on := K.on + k, oc := ca, LO := K.LO ++ L2 } := by
 have hb := h
 refine ⟨hb.a.ext hE (hb.a.offO hb.o.own (by decide)) (hb.a.offL hb.o.own (by decide)), hb.h.ext hE (hb.h.offO hb.o.own (by decide)) (hb.h.offL hb.o.own (by decide)), hb.o.push (by decide) (Ext.refl _ _) hE hF2 (fun x hx => (hd x hx).1) hm hO h.n0 hF, hb.e.ext hE (hb.e.offO hb.o.own (by decide)) (hb.e.offL hb.o.own (by decide)), hb.ah, fun x hx hm => ?_, fun x hx hm => ?_, hb.rr, Nat.le_trans h.n0 hE.size⟩
 ·rw [bl_app] at hm
  rcases List.mem_append.1 hm with hm | hm
  ·exact h.ao x hx hm
  ·exact (hd x hm).2.1 hx
 ·rw [bl_app] at hm
  rcases List.mem_append.1 hm with hm | hm
  ·exact h.ho x hx hm
  ·exact (hd x hm).2.2 hx
theorem Kb.pushE (h : Kb N w K) (hE : Ext (ob (.slice K.eb K.en K.ec)) w w') (hF2 : Fam w 4 1 (fun x => N ≤ x) L2) (hm : ∀ x ∈ L2, x.n ≤ 1000000000) (hd : ∀ x ∈ bl L2, x ∉ bl K.LE) (hO : OwnV w' 31 1 (.slice b1 (K.en + k) ca) (K.en + k) (K.LE.map Rw.v ++ L2.map Rw.v)) (hF : ∀ x ∈ oa b1, x ∈ oa K.eb ∨ w.heap.size ≤ x) :
  Kb N w' { K with eb := b1, en := K.en + k, ec := ca, LE := K.LE ++ L2 } := by
 have hb := h
 exact ⟨hb.a.ext hE (hb.a.offO hb.e.own (by decide)) (hb.a.offL hb.e.own (by decide)), hb.h.ext hE (hb.h.offO hb.e.own (by decide)) (hb.h.offL hb.e.own (by decide)), hb.o.ext hE (hb.o.offO hb.e.own (by decide)) (hb.o.offL hb.e.own (by decide)), hb.e.push (by decide) (Ext.refl _ _) hE hF2 hd hm hO h.n0 hF, hb.ah, hb.ao, hb.ho, hb.rr, Nat.le_trans h.n0 hE.size⟩
end
structure Kt (S : Sp) (Nt : Nat) (w : World) (T : Td) (K : Kx) (P : List Nat) : Prop where
 td : TdOk S Nt w T
 ta : ∀ x ∈ oa T.fb ++ (oa T.wb ++ oa T.yb), x ∉ oa K.ab ∧ x ∉ oa K.hb ∧ x ∉ bl K.LO
 tl : ∀ x ∈ P, x ∉ bl K.LA ∧ x ∉ bl K.LH
 te : T.eg ∉ bl K.LE
section
variable {S : Sp} {Nt N : Nat} {w w' w0 : World} {T : Td} {K : Kx} {P P' : List Nat} {ca k : Nat} {L2 : List Rw} {b b1 : Option Addr} {n c : Nat}
theorem Td.out {x : Nat} (hx : x ∈ oa T.fb ++ (oa T.wb ++ oa T.yb)) : x ∈ T.blks := by
 simp only [List.mem_append] at hx
 simp only [Td.blks, List.mem_cons, List.mem_append]
 rcases hx with h | h | h <;> simp [h]
theorem Kt.ext0 (h : Kt S Nt w T K P) (hE : Ext [] w w') : Kt S Nt w' T K P := ⟨h.td.ext0 hE, h.ta, h.tl, h.te⟩
theorem Kt.extT (h : Kt S Nt w T K P) {d t : Nat} {cs : Array Value} (hE : Ext [d] w w') (hB : Blk w d t cs) (h1 : 51 ≠ t) (h2 : 3 ≠ t) (h3 : 4 ≠ t) : Kt S Nt w' T K P := ⟨h.td.extT hE hB h1 h2 h3, h.ta, h.tl, h.te⟩
theorem TdOk.extO (h : TdOk S Nt w T) {e : TypeId} {xs : List Value} (hV : OwnV w e 1 (.slice b n c) n xs) (hE : Ext (ob (.slice b n c)) w w') (h3 : e ≠ 3) (h4 : e ≠ 4) (hd : e = 51 → ∀ x ∈ oa T.fb ++ (oa T.wb ++ oa T.yb), x ∉ oa b) : TdOk S Nt w' T := by
 refine h.extD hE fun x hx hm => ?_
 simp only [Td.blks, List.mem_cons, List.mem_append] at hx
 have hout : ∀ {b' : Option Addr} {n' c' : Nat} {L : List Rw}, OwnV w 51 1 (.slice b' n' c') n' (L.map Rw.v) → x ∈ oa b' → x ∈ oa T.fb ++ (oa T.wb ++ oa T.yb) → False := fun ho h1 h2 => by
  by_cases he : e = 51
  ·exact hd he x h2 (by rw [ob_oa] at hm; exact hm)
  ·exact hV.disj ho he x hm (by rw [ob_oa]; exact h1)
 have hin : ∀ {L : List Rw}, Fam w 3 1 (fun b => Nt ≤ b) L → x ∈ bl L → False := fun hf h1 => hf.notV hV (Ne.symm h3) x hm h1
 rcases hx with rfl | (h1 | h1) | (h1 | h1) | h1 | h1
 ·exact hV.disj h.re.v h4 _ hm (by simp [ob])
 ·exact hout h.lf.own h1 (by simp [h1])
 ·exact hin h.lf.fam h1
 ·exact hout h.lw.own h1 (by simp [h1])
 ·exact hin h.lw.fam h1
 ·exact hout h.ly.own h1 (by simp [h1])
 ·exact hin h.ly.fam h1
theorem Kt.start (hT : TdOk S w0.heap.size w T) (hK : Kb N w0 K) : Kt S w0.heap.size w T K (bl T.fL ++ (bl T.wL ++ bl T.yL)) := by
 have hge : ∀ x ∈ T.blks, w0.heap.size ≤ x := fun x hx => by
  rcases List.mem_cons.1 hx with h1 | h1
  ·rw [h1]; exact hT.ne
  ·rcases List.mem_append.1 h1 with h1 | h1
   ·exact hT.lf.ge x h1
   ·rcases List.mem_append.1 h1 with h1 | h1
    ·exact hT.lw.ge x h1
    ·exact hT.ly.ge x h1
 refine ⟨hT, fun x hx => ⟨fun h => ?_, fun h => ?_, fun h => ?_⟩, fun x hx => ⟨fun h => ?_, fun h => ?_⟩, fun h => ?_⟩
 ·have := hge x (Td.out hx); have := hK.a.lo x h; omega
 ·have := hge x (Td.out hx); have := hK.h.lo x h; omega
 ·have := hge x (Td.out hx); have := hK.o.fam.blt x h; omega
 ·have := hge x (by simp only [Td.blks, List.mem_cons, List.mem_append] at hx ⊢; rcases hx with h | h | h <;> simp [h]); have := hK.a.fam.blt x h; omega
 ·have := hge x (by simp only [Td.blks, List.mem_cons, List.mem_append] at hx ⊢; rcases hx with h | h | h <;> simp [h]); have := hK.h.fam.blt x h; omega
 ·have := hT.ne; have := hK.e.fam.blt _ h; omega
theorem Kt.pushA (h : Kt S Nt w T K P) (hK : Kb N w K) (hE : Ext (ob (.slice K.ab K.an K.ac)) w w') (hF : ∀ x ∈ oa b1, x ∈ oa K.ab ∨ w.heap.size ≤ x) (hP : ∀ x ∈ P', x ∈ P) (hd : ∀ x ∈ P', x ∉ bl L2) : Kt S Nt w' T { K with ab := b1, an := K.an + k, ac := ca, LA := K.LA ++ L2 } P' := by
 refine ⟨h.td.extO hK.a.own hE (by decide) (by decide) fun _ x hx => (h.ta x hx).1, fun x hx => ⟨fun hm => ?_, (h.ta x hx).2⟩, fun x hx => ⟨fun hm => ?_, (h.tl x (hP x hx)).2⟩, h.te⟩
 ·rcases hF x hm with h1 | h1
  ·exact (h.ta x hx).1 h1
  ·have := h.td.lie x (Td.out hx); omega
 ·rw [bl_app] at hm
  rcases List.mem_append.1 hm with hm | hm
  ·exact (h.tl x (hP x hx)).1 hm
  ·exact hd x hx hm
theorem Kt.pushH (h : Kt S Nt w T K P) (hK : Kb N w K) (hE : Ext (ob (.slice K.hb K.hn K.hc)) w w') (hF : ∀ x ∈ oa b1, x ∈ oa K.hb ∨ w.heap.size ≤ x) (hd : ∀ x ∈ P, x ∉ bl L2) : Kt S Nt w' T { K with hb := b1, hn := K.hn + k, hc := ca, LH := K.LH ++ L2 } P := by
 refine ⟨h.td.extO hK.h.own hE (by decide) (by decide) fun _ x hx => (h.ta x hx).2.1, fun x hx => ⟨(h.ta x hx).1, fun hm => ?_, (h.ta x hx).2.2⟩, fun x hx => ⟨(h.tl x hx).1, fun hm => ?_⟩, h.te⟩
 ·rcases hF x hm with h1 | h1
  ·exact (h.ta x hx).2.1 h1
  ·have := h.td.lie x (Td.out hx); omega
 ·rw [bl_app] at hm
  rcases List.mem_append.1 hm with hm | hm
  ·exact (h.tl x hx).2 hm
  ·exact hd x hx hm
def Td.rows (S : Sp) (T : Td) : List Rw := [⟨.slice T.fb S.ns.length T.fc, S.ns.length, T.fL.map Rw.v⟩, ⟨.slice T.wb S.ns.length T.wc, S.ns.length, T.wL.map Rw.v⟩, ⟨.slice T.yb T.yn T.yc, T.yn, T.yL.map Rw.v⟩]
theorem Td.rows_bl : bl (Td.rows S T) = oa T.fb ++ (oa T.wb ++ oa T.yb) := by simp [Td.rows, bl, ob_oa]
theorem Kt.rows (h : Kt S Nt w T K P) (hN : N ≤ Nt) : Fam w 51 1 (fun x => N ≤ x) (Td.rows S T) := by
 have hf : Fam w 51 1 (fun x => N ≤ x) [⟨.slice T.fb S.ns.length T.fc, S.ns.length, T.fL.map Rw.v⟩] := Fam.nil.snoc h.td.lf.own (fun b hb => Nat.le_trans hN (h.td.lf.new b hb)) fun k x hx => by simp at hx
 have hw := hf.snoc h.td.lw.own (fun b hb => Nat.le_trans hN (h.td.lw.new b hb)) fun k x hx b hb hb' => by
  have hx := List.mem_of_getElem? hx
  simp at hx
  subst hx
  rw [ob_oa] at hb hb'
  exact h.td.afw b (List.mem_append_left _ hb) (List.mem_append_left _ hb')
 exact hw.snoc h.td.ly.own (fun b hb => Nat.le_trans hN (h.td.ly.new b hb)) fun k x hx b hb hb' => by
  have hx := List.mem_of_getElem? hx
  simp at hx
  rw [ob_oa] at hb'
  rcases hx with rfl | rfl
  ·rw [ob_oa] at hb
   exact h.td.afy b (List.mem_append_left _ hb) (List.mem_append_left _ hb')
  ·rw [ob_oa] at hb
   exact h.td.awy b (List.mem_append_left _ hb) (List.mem_append_left _ hb')
end
end Go.Proofs.YtkkpghlcmcaoiaaDoor
