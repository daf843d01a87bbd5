import Derived.Test.YtkkpghlcmcaoiaaDoorLe
import Derived.Test.YtkkpghlcmcaoiaaDoorSt4
import Derived.Test.YtkkpghlcmcaoiaaDoorHh
import Derived.Test.YtkkpghlcmcaoiaaDoorS13
import Derived.Test.YtkkpghlcmcaoiaaDoorS53
import Derived.Test.YtkkpghlcmcaoiaaDoorS47
import Derived.Test.YtkkpghlcmcaoiaaDoorS21
import Derived.Test.YtkkpghlcmcaoiaaDoorS61
import Derived.Test.YtkkpghlcmcaoiaaDoorS60
namespace Go.Proofs.YtkkpghlcmcaoiaaDoor
open Go.Vc Go.Gm
def Pd.pr (p : Pd) : Int × List Sy := (p.l, p.r)
structure Same (S S' : Sp) : Prop where
 tr : S'.lx.map Lx.tr = S.lx.map Lx.tr
 ns : S'.ns = S.ns
 st : S'.st = S.st
 ps : S'.ps.map Pd.pr = S.ps.map Pd.pr
section
variable {S S' : Sp}
theorem Same.symm (h : Same S S') : Same S' S := ⟨h.tr.symm, h.ns.symm, h.st.symm, h.ps.symm⟩
theorem Same.lx (h : Same S S') : S'.lx.length = S.lx.length := by have := congrArg List.length h.tr; simpa using this
theorem Same.pl (h : Same S S') : S'.ps.length = S.ps.length := by have := congrArg List.length h.ps; simpa using this
theorem Same.tri (h : Same S S') (i : Nat) : S'.lx[i]?.map Lx.tr = S.lx[i]?.map Lx.tr := by
 have := congrArg (fun l => l[i]?) h.tr
 simpa only [List.getElem?_map] using this
theorem Same.nl (h : Same S S') : S'.nl = S.nl := h.lx
theorem Same.g (h : Same S S') : S'.g = S.g := by
 have e : ∀ l : List Pd, (l.map fun p => (p.l.toNat, row p.r)) = (l.map Pd.pr).map fun x => (x.1.toNat, row x.2) := fun l => by rw [List.map_map]; rfl
 unfold Sp.g
 rw [e, e, h.ps]
theorem Same.symE (h : Same S S') (x : Sy) : symE S' x = symE S x := by
 unfold Go.Proofs.YtkkpghlcmcaoiaaDoor.symE
 rw [h.lx, h.tri, h.ns]
theorem Same.rightE (h : Same S S') : ∀ r : List Sy, rightE S' r = rightE S r
 | [] => rfl
 | x :: r => by
  unfold Go.Proofs.YtkkpghlcmcaoiaaDoor.rightE
  rw [h.symE, h.rightE r]
theorem Same.prodE (h : Same S S') {p p' : Pd} (hp : p'.pr = p.pr) : prodE S' p' = prodE S p := by
 have h1 : p'.l = p.l := congrArg Prod.fst hp
 have h2 : p'.r = p.r := congrArg Prod.snd hp
 unfold Go.Proofs.YtkkpghlcmcaoiaaDoor.prodE
 rw [h1, h2, h.ns, h.rightE]
theorem Same.prodsE (h : Same S S') : ∀ (l l' : List Pd) (i : Nat), l'.map Pd.pr = l.map Pd.pr → prodsE S' l' i = prodsE S l i
 | [], [], _, _ => rfl
 | [], _ :: _, _, e => by simp at e
 | _ :: _, [], _, e => by simp at e
 | p :: l, p' :: l', i, e => by
  simp only [List.map_cons, List.cons.injEq] at e
  unfold Go.Proofs.YtkkpghlcmcaoiaaDoor.prodsE
  rw [h.prodE e.1, h.prodsE l l' (i + 1) e.2]
theorem Same.inE (h : Same S S') : inE S' = inE S := by
 unfold Go.Proofs.YtkkpghlcmcaoiaaDoor.inE
 rw [h.st, h.ns, h.prodsE S.ps S'.ps 0 h.ps]
theorem Same.lng (h : Same S S') : Lng S' → Lng S := by
 rintro (h1 | h1 | h1 | ⟨p, hp, h1⟩)
 ·exact .inl (by rw [← h.lx]; exact h1)
 ·exact .inr (.inl (by rw [← h.ns]; exact h1))
 ·exact .inr (.inr (.inl (by rw [← h.pl]; exact h1)))
 ·obtain ⟨q, hq, he⟩ := List.mem_map.1 (show p.pr ∈ S.ps.map Pd.pr from h.ps ▸ List.mem_map.2 ⟨p, hp, rfl⟩)
  have h2 : q.r = p.r := congrArg Prod.snd he
  exact .inr (.inr (.inr ⟨q, hq, by rw [h2]; exact h1⟩))
theorem Same.ix (h : Same S S') (hI : Ix S) : Ix S' := inE_ok.1 (by rw [h.inE]; exact inE_ok.2 hI)
theorem Same.isRc (h : Same S S') {x : RcX} (hx : IsRc S x) : IsRc S' x :=
 ⟨by rw [h.ns]; exact hx.l1, by rw [h.lx]; exact hx.l2, fun B => by rw [h.g, h.st]; exact hx.n B, fun t => by rw [h.g, h.st]; exact hx.r t⟩
theorem fR_tr : ∀ {bs : List Bool} {l l' : List Lx} {i : Nat}, l'.map Lx.tr = l.map Lx.tr → fR bs l' i = fR bs l i
 | _, [], [], _, _ => rfl
 | _, [], _ :: _, _, e => by simp at e
 | _, _ :: _, [], _, e => by simp at e
 | [], _ :: _, _ :: _, _, _ => rfl
 | b :: bs, a :: l, a' :: l', i, e => by
  simp only [List.map_cons, List.cons.injEq] at e
  rw [fR, fR, e.1, fR_tr e.2]
theorem Same.rcE (h : Same S S') (x : RcX) : rcE S' x = rcE S x := by
 unfold Go.Proofs.YtkkpghlcmcaoiaaDoor.rcE
 rw [fR_tr h.tr]
theorem Same.chk (h : Same S S') {z : Int × Int} (hz : ChkR S z) : ChkR S' z := by
 have hl : ¬Lng S → ¬Lng S' := fun hn h' => hn (h.lng h')
 cases hz with
 | lng h1 => exact .lng (h.symm.lng h1)
 | ix h1 h2 => rw [← h.inE] at h2 ⊢; exact .ix (hl h1) h2
 | @rc x h1 h2 h3 h4 => rw [← h.rcE] at h4 ⊢; exact .rc (hl h1) (h.ix h2) (h.isRc h3) h4
 | up h1 h2 h3 h4 h5 h6 => exact .up (hl h1) (h.ix h2) (h.isRc h3) (by rw [h.rcE]; exact h4) (by rw [h.g, h.ns]; exact h5) h6
 | em h1 h2 h3 h4 h5 h6 h7 h8 h9 => exact .em (hl h1) (h.ix h2) (h.isRc h3) (by rw [h.rcE]; exact h4) (by rw [h.g, h.ns]; exact h5) h6 (by rw [h.g, h.ns]; exact h7) (by rw [h.ns]; exact h8) (by rw [h.g]; exact h9)
theorem Same.isTm (h : Same S S') (z : Int) : isTm S' z ↔ isTm S z := by
 unfold Go.Proofs.YtkkpghlcmcaoiaaDoor.isTm
 rw [h.lx, h.tri]
theorem Same.symsE (h : Same S S') : ∀ (r : List Sy) (i : Nat), symsE S' r i = symsE S r i
 | [], _ => rfl
 | x :: r, i => by
  unfold Go.Proofs.YtkkpghlcmcaoiaaDoor.symsE
  rw [h.symE, h.symsE r]
theorem Same.termsE (h : Same S S') : ∀ (l : List Int) (i : Nat), termsE S' l i = termsE S l i
 | [], _ => rfl
 | z :: l, i => by
  unfold Go.Proofs.YtkkpghlcmcaoiaaDoor.termsE
  by_cases hz : Go.Proofs.YtkkpghlcmcaoiaaDoor.isTm S z
  ·rw [if_pos hz, if_pos ((h.isTm z).2 hz), h.termsE l]
  ·rw [if_neg hz, if_neg fun q => hz ((h.isTm z).1 q)]
theorem Same.hdE (h : Same S S') (r : List Sy) (ts : List Int) : hdE S' r ts = hdE S r ts := by
 unfold Go.Proofs.YtkkpghlcmcaoiaaDoor.hdE
 rw [h.symsE, h.termsE]
theorem HdsR.same {r : List Sy} {ts : List Int} {l l' : List Nat} (h : HdsR S r ts l) (h' : HdsR S r ts l') : l = l' := h.rising.ext h'.rising fun t => by rw [h.mem, h'.mem]
end
theorem cells_tr {l : Lx} {n : ByteArray} {b : Bool} {cs : List Value} (h : l.cells = .string n :: .bool b :: cs) : l.tr = b := by
 unfold Lx.cells at h
 simp only [List.cons.injEq, Value.bool.injEq] at h
 exact h.2.1
theorem LentOk.same {w w0 : World} {N : Nat} {S : Sp} {xs : List Ex} {gl gn gp : Nat} {ls : List Lx} {qs : List Pd} (h : LentOk w N S xs gl gn gp ls qs) (hX : PatOk w0 S xs) : Same S (lentS S gl gn gp ls qs) := by
 have h1 := h.lx.len
 have h2 := h.ps.len
 have h3 := hX.len
 refine ⟨?_, rfl, rfl, ?_⟩
 ·show ls.map Lx.tr = S.lx.map Lx.tr
  refine List.ext_getElem? fun i => ?_
  rw [List.getElem?_map, List.getElem?_map]
  rcases Nat.lt_or_ge i S.lx.length with hi | hi
  ·obtain ⟨l, hl⟩ : ∃ l, S.lx[i]? = some l := ⟨_, List.getElem?_eq_getElem hi⟩
   obtain ⟨l', hl'⟩ : ∃ l', ls[i]? = some l' := ⟨_, List.getElem?_eq_getElem (by omega)⟩
   obtain ⟨x, hx⟩ : ∃ x, xs[i]? = some x := ⟨_, List.getElem?_eq_getElem (by omega)⟩
   rw [hl, hl', Option.map_some, Option.map_some, cells_tr (h.lx.is i l l' x hl hl' hx).1]
  ·rw [List.getElem?_eq_none (by omega), List.getElem?_eq_none (by omega)]
 ·show qs.map Pd.pr = S.ps.map Pd.pr
  refine List.ext_getElem? fun i => ?_
  rw [List.getElem?_map, List.getElem?_map]
  rcases Nat.lt_or_ge i S.ps.length with hi | hi
  ·obtain ⟨p, hp⟩ : ∃ p, S.ps[i]? = some p := ⟨_, List.getElem?_eq_getElem hi⟩
   obtain ⟨q, hq⟩ : ∃ q, qs[i]? = some q := ⟨_, List.getElem?_eq_getElem (by omega)⟩
   obtain ⟨e1, e2, _⟩ := h.ps.is i p q hp hq
   rw [hp, hq, Option.map_some, Option.map_some]
   show some (q.l, q.r) = some (p.l, p.r)
   rw [e1, e2]
  ·rw [List.getElem?_eq_none (by omega), List.getElem?_eq_none (by omega)]
end Go.Proofs.YtkkpghlcmcaoiaaDoor
namespace Go.Proofs.YtkkpghlcmcaoiaaDoor
open Go.Vc Go.Gm
end Go.Proofs.YtkkpghlcmcaoiaaDoor
namespace Go.Proofs.YtkkpghlcmcaoiaaDoor
open Go.Vc Go.Gm
theorem Lend_any2 {w0 w : World} {S : Sp} (hG : SpOk w0 S) (hb : Ext [] w0 w) (hX : ∃ xs, PatOk w0 S xs) : Calls Tryd.prog 13 #[.agg S.ca] w fun e w' => ∃ S2 : Sp, e = .returned (.agg #[S2.lv, S2.nv, I6 S2.st, S2.pv]) ∧ SpOk w' S2 ∧ Same S S2 ∧ (∀ w2, Ext [] w' w2 → Calls Tryd.prog 20 #[.agg #[S2.lv, S2.nv, I6 S2.st, S2.pv], .agg S.ca] w2 fun e w3 => e = .returned (.bool true) ∧ Ext [] w2 w3) ∧ Ext [] w w' := by
 obtain ⟨xs, hX⟩ := hX
 refine (Lend_any hG hb hX).mono ?_
 rintro e w' ⟨gl, gn, gp, ls, qs, rfl, hL, hE⟩
 refine ⟨lentS S gl gn gp ls qs, rfl, hL.sp hG, hL.same hX, fun w2 h2 => ?_, hE⟩
 have hk := Kept_any hG ((hb.trans0 hE).trans0 h2) hX (hL.ext0 h2)
 have hc := hL.ca
 unfold Sp.ca at hc
 rw [hc]; exact hk
theorem fault_any {w : World} {z : Int × Int} (h : z.1 = 0 → z = (0, 0)) :
  Calls Tryd.prog 19 #[I6 z.2, I6 z.1] w fun e w' => e = .returned (.agg #[I6 z.1, I6 z.2, .string ⟨#[]⟩]) ∧ Ext [] w w' := by
 refine cbd 11 [(0, I6 z.2), (1, I6 z.1)] Tryd.func19 rfl fun a hS => ?_
 have hE0 : Ext [] w w := Ext.refl _ _
 refine sq fun K1 hK1 => rgn 1 <| ebx 0 #[I6 0, I6 0, .string ⟨#[]⟩] 34 (some 4) hS fun a w2 hw3 hS => ?_
 have hB4 := Blk.nw hw3
 have hs5 := hE0.size
 have hE6 := hE0.al hw3
 refine sge hK1 <| sq fun K7 hK7 => sq fun K8 hK8 => ?_
 rcases (show (z.1 = 0) ∨ (z.1 ≠ 0) from by omega) with h0 | h0
 ·
  refine rgn 2 <| sd ww [.p, .as (.bool true)] [Value.bool (((z.1 : Int) == 0)) = .bool true] [(6, .bool true)] [] 2 0 hS (.c (as_eq_t (by omega)) .nil) fun a hS => sge hK8 ?_
  refine cond_t hS rfl ?_
  refine sq fun K9 hK9 => rgn 2 <| sd ww [.p] [] [(7, .agg #[I6 0, I6 0, .string ⟨#[]⟩])] [] 1 1 hS .nil fun a hS => est 0 w.heap.size 0 [I6 0, I6 0, .string ⟨#[]⟩] hS hB4 fun a w10 hw11 hS => ?_
  have hB12 : Blk w10 w.heap.size 34 (#[I6 0, I6 0, .string ⟨#[]⟩]) := hB4.up hw11
  have hE13 := hE6.ui hw11 hs5
  refine sge hK9 <| wpIn_ret <| then_ret ?_
  refine retA1 hS Tryd.results19 (by kernel_rfl) (by kernel_rfl) rfl hB12 ?_
  exact ⟨by rw [h h0], hE13⟩
 ·
  refine rgn 2 <| sd ww [.p, .as (.bool false)] [Value.bool (((z.1 : Int) == 0)) = .bool false] [(6, .bool false)] [] 2 0 hS (.c (as_eq_f (by omega)) .nil) fun a hS => sge hK8 ?_
  refine cond_f hS rfl ?_
  refine wpIn_skip <| hK7 _ _ <| sq fun K14 hK14 => rgn 4 <| sd ww [.p, .p, .p] [] [(10, .agg #[I6 z.1, I6 z.2, .string ⟨#[]⟩])] [] 3 1 hS .nil fun a hS => est 0 w.heap.size 0 [I6 z.1, I6 z.2, .string ⟨#[]⟩] hS hB4 fun a w15 hw16 hS => ?_
  have hB17 : Blk w15 w.heap.size 34 (#[I6 z.1, I6 z.2, .string ⟨#[]⟩]) := hB4.up hw16
  have hE18 := hE6.ui hw16 hs5
  refine sge hK14 <| wpIn_ret ?_
  refine retA1 hS Tryd.results19 (by kernel_rfl) (by kernel_rfl) rfl hB17 ?_
  exact ⟨rfl, hE18⟩
end Go.Proofs.YtkkpghlcmcaoiaaDoor
namespace Go.Proofs.YtkkpghlcmcaoiaaDoor
open Go.Vc Go.Gm
section
variable {w0 w : World} {S : Sp} (hG : SpOk w0 S) (hb : Ext [] w0 w)
include hG hb
theorem Nullable_l (hok : GOk S) : Calls Tryd.prog 14 #[.agg S.ca] w fun e w' => ∃ g bs, e = .returned (.tuple #[Sn S g, .agg #[I6 0, I6 0, .string ⟨#[]⟩]]) ∧ RdV w' 1 (Sn S g) S.ns.length (bls bs) ∧ IsD S.g false S.ns.length bs ∧ Ext [] w w' := by
 refine (Nullable_ok hG hb hok).mono ?_
 rintro e w' ⟨g, bs, rfl, h1, h2, _, hE⟩
 exact ⟨g, bs, rfl, h1.v.rd, h2, hE⟩
theorem First_l (hok : GOk S) (hT : Tab w0) : Calls Tryd.prog 15 #[.agg S.ca] w fun e w' => ∃ bs cp ls, e = .returned (.tuple #[.slice bs S.ns.length cp, .agg #[I6 0, I6 0, .string ⟨#[]⟩]]) ∧ RdL w' (.slice bs S.ns.length cp) S.ns.length ls ∧ FirR S ls ∧ Ext [] w w' := by
 refine (First_ok hG hb hok hT).mono ?_
 rintro e w' ⟨bs, cp, L, ls, rfl, h1, h2, hE⟩
 exact ⟨bs, cp, ls, rfl, h1.rdl h2.max, h2, hE⟩
theorem Follow_l (hok : GOk S) (hT : Tab w0) : Calls Tryd.prog 16 #[.agg S.ca] w fun e w' => ∃ bs cp ls, e = .returned (.tuple #[.slice bs S.ns.length cp, .agg #[I6 0, I6 0, .string ⟨#[]⟩]]) ∧ RdL w' (.slice bs S.ns.length cp) S.ns.length ls ∧ FolR S ls ∧ Ext [] w w' := by
 refine (Follow_ok hG hb hok hT).mono ?_
 rintro e w' ⟨bs, cp, L, ls, rfl, h1, h2, hE⟩
 exact ⟨bs, cp, ls, rfl, h1.rdl h2.max, h2, hE⟩
theorem Yields_l (hok : GOk S) : Calls Tryd.prog 17 #[.agg S.ca] w fun e w' => ∃ bs m cp ls k at', e = .returned (.tuple #[.slice bs m cp, .agg #[I6 k, I6 at', .string ⟨#[]⟩]]) ∧ RdL w' (.slice bs m cp) m ls ∧ (∃ L, YoR S k at' bs m cp L ls) ∧ Ext [] w w' := by
 refine (Yields_ok hG hb hok).mono ?_
 rintro e w' ⟨bs, m, cp, L, ls, k, at', rfl, h1, h2, hE⟩
 exact ⟨bs, m, cp, ls, k, at', rfl, h1.rdl h2.max, ⟨L, h2⟩, hE⟩
theorem Yields_lr (hok : GOk S) : Calls Tryd.prog 18 #[.agg S.ca] w fun e w' => ∃ x v n, e = .returned (.tuple #[v, I6 (fH x.2 0).2, I6 (fH x.2 0).1]) ∧ RdL w' v n (if (fH x.2 0).1 = 0 then x.1 else []) ∧ ZldR S x ∧ Ext [] w w' := by
 refine (Yields_r hG hb hok.ix fun p hp => ?_).mono ?_
 ·have h := hok.lng
  rcases Nat.lt_or_ge 16 p.r.length with h1 | h1
  ·exact absurd (.inr (.inr (.inr ⟨p, hp, h1⟩))) h
  ·exact h1
 ·rintro e w' ⟨x, hz, ⟨h0, rfl⟩ | ⟨h0, g, L, rfl, hL⟩, hE⟩
  ·exact ⟨x, .slice none 0 0, 0, by rw [fH_six h0], by rw [if_neg h0]; exact (Lsts.none 0 w').rdl (fun l hl => by cases hl), hz, hE⟩
  ·refine ⟨x, _, S.ns.length, by rw [fH_zero h0], ?_, hz, hE⟩
   rw [if_pos h0]
   exact hL.rdl fun l hl => Nat.le_trans (hz.s.short l hl) (by omega)
end
theorem fault_k {w : World} {k at' : Int} {f : Int × Int} (h : (k, at') = f) (h0 : f.1 = 0 → f = (0, 0)) : Calls Tryd.prog 19 #[I6 f.2, I6 f.1] w fun e w' => e = .returned (.agg #[I6 k, I6 at', .string ⟨#[]⟩]) ∧ Ext [] w w' := by
 subst h; exact fault_any h0
section
variable {S S2 : Sp}
theorem Same.firR (hs : Same S S2) {ls : List (List Nat)} (h : FirR S2 ls) : FirR S ls := by
 obtain ⟨fs, h1, h2, h3, h4⟩ := h
 rw [hs.g, hs.nl] at h4
 rw [hs.ns] at h2
 exact ⟨fs, h1, h2, h3, h4⟩
theorem Same.folR (hs : Same S S2) {ls : List (List Nat)} (h : FolR S2 ls) : FolR S ls := by
 obtain ⟨fs, h1, h2, h3, h4⟩ := h
 rw [hs.g, hs.nl, hs.st] at h4
 rw [hs.ns] at h2
 exact ⟨fs, h1, h2, h3, h4⟩
theorem YoR.ref (hs : Same S S2) {k at' : Int} {bs : Option Addr} {m cp : Nat} {ls : List (List Nat)} {x : RzX} (h : ∃ L, YoR S2 k at' bs m cp L ls) (hz : ZldR S x) : (k, at') = fH x.2 0 ∧ ls = if (fH x.2 0).1 = 0 then x.1 else [] := by
 obtain ⟨L, vs, hl, h⟩ := h
 have hl' : LenR S vs := ⟨by rw [hl.len, hs.ns], by have := hl.c; rw [hs.g] at this; exact this⟩
 have hf := hz.fault hl'
 rcases h with ⟨h1, h2, h3, _, _, _, _, h4⟩ | ⟨h1, h2, h3, _, h4⟩
 ·rw [← hf] at h2 h3
  rw [if_neg h2, h1, h3, ← fH_six h2]
  exact ⟨rfl, h4⟩
 ·rw [← hf] at h3
  rw [if_pos h3, h1, h2, fH_zero h3]
  refine ⟨rfl, hz.rows h3 ?_⟩
  unfold YldR at h4 ⊢
  rw [hs.ns, hs.g, hs.nl] at h4
  exact h4
end
theorem sameBools_l {w : World} {v u : Value} {n m : Nat} {xs ys : List Bool} (h : xs = ys) (hv : RdV w 1 v n (bls xs)) (hu : RdV w 1 u m (bls ys)) (hn : n ≤ 1048576) : Calls Tryd.prog 21 #[v, u] w fun e w' => e = .returned (.bool true) ∧ Ext [] w w' := by
 subst h
 have h1 := hv.len
 have h2 := hu.len
 obtain rfl : n = m := by omega
 exact sameBools_eq hv hu hn
theorem sameRows_l {w : World} {v u : Value} {n m : Nat} {xs ys : List (List Nat)} (h : xs = ys) (hv : RdL w v n xs) (hu : RdL w u m ys) (hn : n ≤ 1048576) : Calls Tryd.prog 26 #[v, u] w fun e w' => e = .returned (.bool true) ∧ Ext [] w w' := by
 subst h
 obtain rfl : n = m := hv.len.symm.trans hu.len
 exact sameRows_eq hv hu hn
theorem tru_max {l : List Bool} {k : Nat} (h : l.length = k) : (tru l 0).length ≤ k := h ▸ tru_len l 0
theorem sameSets_eq {w : World} {v : Value} {n N k m cp : Nat} {bs : Option Addr} {ls : List (List Nat)} {L : List (Nat × List Bool)} (h1 : RdL w v n ls) (hB : Bst N k w bs m cp L) (hls : ls = (L.map Prod.snd).map fun f => tru f 0) (hn : n ≤ 1048576) (hk : k ≤ 1048576) :
  Calls Tryd.prog 23 #[v, (.slice bs m cp)] w fun e w' => e = .returned (.bool true) ∧ Ext [] w w' := by
 have hLl := hB.len
 obtain ⟨⟨va, hv, hva, hra⟩, hln, hmx⟩ := h1
 obtain rfl : m = n := by rw [hls] at hln; simp at hln; omega
 have hu := hB.own.rd
 refine cbd 28 [(0, v), (1, (.slice bs m cp))] Tryd.func23 rfl fun a hS => ?_
 have hE0 : Ext [] w w := Ext.refl _ _
 refine sdq 1 [.p] [] [(4, .bool false)] [] hS .nil fun a hS => sq fun K2 hK2 => sdq 5 [.p, .run (I6 m), .p, .run (I6 m), .as (.bool false)] [Rv (Builtin.len_ #[37] 3 #[v]) (I6 m) w, Rv (Builtin.len_ #[47] 3 #[(.slice bs m cp)]) (I6 m) w, Value.bool (((↑m : Int) != ↑m)) = .bool false] [(10, .bool false)] [] hS (.c (rlr 51 hv) (.c (rlr 124 hu) (.c (as_ne_f (rfl)) .nil))) fun a hS => ?_
 refine cond_f hS rfl ?_
 refine wpIn_skip <| hK2 _ _ <| sq fun K4 hK4 => sdq 1 [.p] [] [(5, I6 0)] [] hS .nil fun a hS => wpIn_block ?_
 refine loop_ghost (fun (i : Nat) a' w' => St 28 [] [(0, v), (1, (.slice bs m cp)), (5, I6 i)] a' ∧ Ext [] w w' ∧ i ≤ m) (fun (i : Nat) => m - i) 0 ⟨hS.keepTo [0, 1, 5] (by kernel_rfl), hE0, by omega⟩ ?_
 rintro i a wl6 ⟨hS, hXl6, hi⟩
 refine sq fun K7 hK7 => sdq 4 [.p, .p, .run (I6 m), .p] [Rv (Builtin.len_ #[37] 3 #[v]) (I6 m) wl6] [(14, .bool (decide ((↑i : Int) < ↑m)))] [] hS (.c (rlr 51 hv) .nil) fun a hS => ?_
 refine cond_b hS rfl (fun hb9 => ?_) (fun hb9 => ?_)
 ·
  replace hb9 := of_decide_eq_true hb9
  obtain ⟨x, hx⟩ : ∃ x, L[i]? = some x := gE
  have hxl := hB.sets.len hx
  obtain ⟨xv, hxv, hxr⟩ := hra i (tru x.2 0) (by rw [hls, List.getElem?_map, List.getElem?_map, hx]; rfl)
  have hlm := tru_max hxl
  refine wpIn_skip <| hK7 _ _ <| sq fun K10 hK10 => wpIn_block <| sq fun K11 hK11 => ?_
  refine gh3 (G := (Option Addr) × Nat × Nat × World × World) [.q .p, .q .p, .q (.run ((Po (bof v) (oof v + i * 1)))), .q (.ld (xv)), .q .p, .q .p, .q (.run ((Po (bof (.slice bs m cp)) (oof (.slice bs m cp) + i * 1)))), .q (.ld (Sl x.1 k k)), .e, .e, .q .p] [0, 0, 0, 0, 0, 0, 0, 0, 0, 1, 2] [1, 1, 1, 1, 0, 0, 0, 0, 0, 1, 2] [0, 0, 3, 7, 0, 0, 48, 112, 240, 511, 1023] [8, 9] [(8, 0), (9, 1)] 2 (fun ⟨b312, n312, c312, wc12, wc13⟩ => ([(0, v), (1, (.slice bs m cp)), (5, I6 i), (14, .bool (decide ((↑i : Int) < ↑m))), (17, v), (18, I6 i), (19, (Po (bof v) (oof v + i * 1))), (20, xv), (21, (.slice bs m cp)), (22, I6 i), (23, (Po (bof (.slice bs m cp)) (oof (.slice bs m cp) + i * 1))), (24, Sl x.1 k k), (25, .slice b312 n312 c312), (26, .bool true), (27, .bool false)] : Fm)) (fun ⟨b312, n312, c312, wc12, wc13⟩ => [wl6.drew, wc12, wc13]) (wl6.drew) (fun e ⟨b312, n312, c312, wc12, wc13⟩ => hAt [True, (RowN (wl6.drew).heap.size wc12 b312 n312 c312 (tru x.2 0)) ∧ (Ext [] wl6.drew wc12) ∧ True, (RowN (wl6.drew).heap.size wc12 b312 n312 c312 (tru x.2 0)) ∧ (Ext [] wl6.drew wc12) ∧ (Ext [] wc12 wc13) ∧ True] e) (fun ⟨b312, n312, c312, wc12, wc13⟩ w' => [(2, [Rv (Instr.indexAt 37 (v) (I6 i)) ((Po (bof v) (oof v + i * 1))) w']), (3, [w'.cell? ⟨bof v, oof v + i * 1, none⟩ = some (xv)]), (6, [Rv (Instr.indexAt 47 ((.slice bs m cp)) (I6 i)) ((Po (bof (.slice bs m cp)) (oof (.slice bs m cp) + i * 1))) w']), (7, [w'.cell? ⟨bof (.slice bs m cp), oof (.slice bs m cp) + i * 1, none⟩ = some (Sl x.1 k k)])]) (none, 0, 0, wl6.drew, w) [0, 1, 5, 14] [] hS (fun ⟨b312, n312, c312, wc12, wc13⟩ _ => by kernel_rfl) trivial ?_ ?_ ?_
  ·rintro e ⟨b312, n312, c312, wc12, wc13⟩ w' hw hH
   refine (.c ?_ (.c ?_ (.c ?_ (.c ?_ .nil))))
   ·intro h1 h2
    replace h1 : 0 ≤ e := h1
    replace h2 : e ≤ 1 := h2
    have he : e = 0 ∨ e = 1 := by omega
    rcases he with rfl | rfl
    ·have hwe : wl6.drew = w' := hwz hw
     subst hwe
     clear hH
     exact (.c (ixr 51 i hv) .nil)
    ·have hwe : wc12 = w' := hwz hw
     subst hwe
     obtain ⟨hRn12, hEc12, _⟩ := hH
     exact (.c (ixr 51 i hv) .nil)
   ·intro h1 h2
    replace h1 : 0 ≤ e := h1
    replace h2 : e ≤ 1 := h2
    have he : e = 0 ∨ e = 1 := by omega
    rcases he with rfl | rfl
    ·have hwe : wl6.drew = w' := hwz hw
     subst hwe
     clear hH
     exact (.c ((hv.ext0 (hXl6.trans0 (by first | exact (Ext.refl [] _).drew | exact Ext.refl [] _ | exact ((Ext.refl [] _).drew).trans0 (by assumption)))).cellAt (i * 1) (by omega) (by rw [Nat.mul_one]; exact hxv)) .nil)
    ·have hwe : wc12 = w' := hwz hw
     subst hwe
     obtain ⟨hRn12, hEc12, _⟩ := hH
     exact (.c ((hv.ext0 (hXl6.trans0 (by first | exact (Ext.refl [] _).drew | exact Ext.refl [] _ | exact ((Ext.refl [] _).drew).trans0 (by assumption)))).cellAt (i * 1) (by omega) (by rw [Nat.mul_one]; exact hxv)) .nil)
   ·intro h1 h2
    obtain rfl := Nat.le_antisymm h2 h1
    have hwe : wl6.drew = w' := hwz hw
    subst hwe
    clear hH
    exact (.c (ixr 124 i hu) .nil)
   ·intro h1 h2
    obtain rfl := Nat.le_antisymm h2 h1
    have hwe : wl6.drew = w' := hwz hw
    subst hwe
    clear hH
    exact (.c ((hu.ext0 (hXl6.trans0 (by first | exact (Ext.refl [] _).drew | exact Ext.refl [] _ | exact ((Ext.refl [] _).drew).trans0 (by assumption)))).cellAt (i * 1) (by omega) (bcl_at hx)) .nil)
  ·refine (.c ?eq14_8 (.c ?eq14_9 .nil))
   ·rintro ⟨b312, n312, c312, wc12, wc13⟩ hH
    clear hH
    refine eff_gh (wl6.drew) (by kernel_rfl) ?_
    refine upon_call (f := 66) (vs := [Sl x.1 k k]) (cap := #[]) (d := (some 25)) (by kernel_rfl) Tryd.call66 #[Sl x.1 k k] (by kernel_rfl) (List_r ((hB.sets.rows i x hx).v.rd.ext0 (hXl6.trans0 ((Ext.refl [] _).drew))) hk) ?_
    rintro _ wc12 ⟨b312, n312, c312, rfl, hRn12, hEc12⟩
    exact ⟨_, rfl, ⟨(b312, n312, c312, wc12, wc13), by kernel_rfl, by kernel_rfl, by kernel_rfl, ⟨hRn12, hEc12, trivial⟩⟩⟩
   ·rintro ⟨b312, n312, c312, wc12, wc13⟩ hH
    obtain ⟨hRn12, hEc12, _⟩ := hH
    refine eff_gh (wc12) (by kernel_rfl) ?_
    refine upon_call (f := 35) (vs := [xv, .slice b312 n312 c312]) (cap := #[]) (d := (some 26)) (by kernel_rfl) Tryd.call35 #[xv, .slice b312 n312 c312] (by kernel_rfl) (SameInts_eq (hxr.ext0 (hXl6.trans0 ((((Ext.refl [] _).drew)).trans0 hEc12))) hRn12.own.rd (by omega)) ?_
    rintro _ wc13 ⟨rfl, hEc13⟩
    exact ⟨_, rfl, ⟨(b312, n312, c312, wc12, wc13), by kernel_rfl, by kernel_rfl, by kernel_rfl, ⟨hRn12, hEc12, hEc13, trivial⟩⟩⟩
  rintro ⟨b312, n312, c312, wc12, wc13⟩ a w15 hS hw16 hH
  obtain ⟨hRn12, hEc12, hEc13, _⟩ := hH
  replace hw16 : w15 = wc13 := hw16.trans (by kernel_rfl)
  have hE17 : Ext [] w w15 := by rw [hw16]; exact ((hXl6.drew).trans0 hEc12).trans0 hEc13
  replace hS := hS.kp [(0, v), (1, (.slice bs m cp)), (5, I6 i), (14, .bool (decide ((↑i : Int) < ↑m))), (27, .bool false)]
  refine hK11 _ _ ?_
  refine cond_f hS rfl ?_
  refine wpIn_skip <| inBlock_normal <| hK10 _ _ <| rgn 3 <| sd ww [.p, .as (I6 (↑i + 1)), .p] [_] [(5, I6 (↑i + 1))] [] 3 0 hS (as6 (↑i + 1)) fun a hS => seg_end ?_
  exact ⟨i + 1, ⟨hS.kp [(0, v), (1, (.slice bs m cp)), (5, I6 (↑i + 1))], hE17, by omega⟩, by omega⟩
 ·
  replace hb9 := of_decide_eq_false hb9
  refine xt2 <| hK4 _ _ <| sdq 1 [.p] [] [(4, .bool true)] [] hS .nil fun a hS => wpIn_ret ?_
  refine ret1 hS Tryd.results23 rfl ?_
  exact ⟨rfl, hXl6⟩
end Go.Proofs.YtkkpghlcmcaoiaaDoor
