import Derived.Test.YtkkpghlcmcaoiaaDoorS42
import Derived.Test.YtkkpghlcmcaoiaaDoorOa
import Derived.Test.YtkkpghlcmcaoiaaDoorSt4
import Derived.Test.YtkkpghlcmcaoiaaDoorHh
import Derived.Test.YtkkpghlcmcaoiaaDoorS47
import Derived.Test.YtkkpghlcmcaoiaaDoorS29
import Derived.Test.YtkkpghlcmcaoiaaDoorS21
namespace Go.Proofs.YtkkpghlcmcaoiaaDoor
open Go.Vc Go.Gm
theorem Check_r {w0 w : World} {S : Sp} (hG : SpOk w0 S) (hb : Ext [] w0 w) :
  Calls Tryd.prog 11 #[.agg S.ca] w fun e w' => ∃ z : Int × Int, ChkR S z ∧ e = .returned (.tuple #[I6 z.2, I6 z.1]) ∧ Ext [] w w' := by
 have hlmax := hG.lmax
 have hnmax := hG.nmax
 have hpmax := hG.pmax
 refine cbd 36 [(0, .agg S.ca)] Tryd.func11 rfl fun a hS => ?_
 have hE0 : Ext [] w w := Ext.refl _ _
 refine sq fun K1 hK1 => rgn 3 <| ebx 2 S.ca 26 (some 1) hS fun a w2 hw3 hS => ?_
 have hB4 := Blk.nw hw3
 have hs5 := hE0.size
 have hE6 := hE0.al hw3
 refine sd ww [.p, .p] [] [(2, I6 0), (3, I6 0)] [] 3 0 hS .nil fun a hS => sge hK1 <| sq fun K7 hK7 => sq fun K8 hK8 => rgn 2 <| sd ww [.lds [S.lv, S.nv, I6 S.st, S.pv]] [_, _, _, _] [(6, .agg S.ca)] [] 1 1 hS (hB4.k 0 (hB4.k 1 (hB4.k 2 (hB4.k 3 .nil)))) fun a hS => ecl 0 (some 7) hS Tryd.call45 #[.agg S.ca] (Long_r hG (hb.trans0 hE6)) ?_
 rintro _ wc9 ⟨rfl, hEc9⟩
 refine ⟨_, rfl, fun a hS => ?_⟩
 have hB10 := hB4.ext hEc9 (by simp)
 have hE11 := hE6.trans0 hEc9
 refine sge hK8 ?_
 refine cond_b hS rfl (fun hb12 => ?_) (fun hb12 => ?_)
 ·
  replace hb12 := of_decide_eq_true hb12
  have hL : Lng S := hb12
  refine sdq 2 [.p, .p] [] [(3, I6 2)] [] hS .nil fun a hS => wpIn_ret <| then_ret ?_
  refine ret2 hS Tryd.results11 rfl rfl ?_
  exact ⟨(2, 0), .lng hL, rfl, hE11⟩
 ·
  replace hb12 := of_decide_eq_false hb12
  have hL : ¬Lng S := hb12
  have h16 : ∀ p ∈ S.ps, p.r.length ≤ 16 := fun p hp => by
   rcases Nat.lt_or_ge 16 p.r.length with h | h
   ·exact absurd (.inr (.inr (.inr ⟨p, hp, h⟩))) hL
   ·exact h
  refine wpIn_skip <| hK7 _ _ <| sq fun K14 hK14 => rgn 7 <| sd ww [.lds [S.lv, S.nv, I6 S.st, S.pv]] [_, _, _, _] [(9, .agg S.ca)] [] 1 6 hS (hB10.k 0 (hB10.k 1 (hB10.k 2 (hB10.k 3 .nil)))) fun a hS => ecl 5 (some 10) hS Tryd.call46 #[.agg S.ca] (indices_r hG (hb.trans0 hE11)) ?_
  rintro _ wc15 ⟨rfl, hEc15⟩
  refine ⟨_, rfl, fun a hS => ?_⟩
  have hB16 := hB10.ext hEc15 (by simp)
  have hE17 := hE11.trans0 hEc15
  refine sd ww [.p, .p, .p, .p, .p] [] [(4, I6 ((inE S).2)), (5, I6 ((inE S).1))] [] 7 0 hS .nil fun a hS => sge hK14 <| sq fun K18 hK18 => sq fun K19 hK19 => ?_
  rcases (show ((inE S).1 ≠ 0) ∨ ((inE S).1 = 0) from by omega) with h1 | h1
  ·
   refine rgn 2 <| sd ww [.p, .as (.bool false)] [Value.bool ((((inE S).1 : Int) == 0)) = .bool false] [(14, .bool false)] [] 2 0 hS (.c (as_eq_f (by omega)) .nil) fun a hS => sge hK19 ?_
   refine cond_f hS rfl ?_
   refine wpIn_skip <| hK18 _ _ <| sq fun K20 hK20 => sdq 2 [.p, .as (.bool false)] [Value.bool ((((inE S).1 : Int) == 0)) = .bool false] [(21, .bool false)] [] hS (.c (as_eq_f (by omega)) .nil) fun a hS => ?_
   refine cond_f hS rfl ?_
   refine wpIn_skip <| hK20 _ _ <| sq fun K22 hK22 => sq fun K23 hK23 => rgn 2 <| sg ww [.p, .as (.bool false)] [Value.bool ((((inE S).1 : Int) == 0)) = .bool false] [(0, .agg S.ca), (1, (Pv w.heap.size)), (2, I6 0), (3, I6 0), (7, .bool (decide (Lng S))), (4, I6 ((inE S).2)), (5, I6 ((inE S).1)), (14, .bool false), (21, .bool false), (28, .bool false)] 2 0 hS (.c (as_eq_f (by omega)) .nil) fun a hS => sge hK23 ?_
   refine cond_f hS rfl ?_
   refine wpIn_skip <| hK22 _ _ <| sdq 4 [.p, .p, .p, .p] [] [(2, I6 ((inE S).2)), (3, I6 ((inE S).1))] [] hS .nil fun a hS => wpIn_ret ?_
   refine ret2 hS Tryd.results11 rfl rfl ?_
   exact ⟨inE S, .ix hL h1, rfl, hE17⟩
  ·
   have hI := inE_ok.1 h1
   refine rgn 2 <| sd ww [.p, .as (.bool true)] [Value.bool ((((inE S).1 : Int) == 0)) = .bool true] [(14, .bool true)] [] 2 0 hS (.c (as_eq_t (by omega)) .nil) fun a hS => sge hK19 ?_
   refine cond_t hS rfl ?_
   refine rgn 7 <| sd ww [.lds [S.lv, S.nv, I6 S.st, S.pv]] [_, _, _, _] [(16, .agg S.ca)] [] 1 6 hS (hB16.k 0 (hB16.k 1 (hB16.k 2 (hB16.k 3 .nil)))) fun a hS => ecl 5 (some 17) hS Tryd.call47 #[.agg S.ca] (reached_r hG (hb.trans0 hE17) hI) ?_
   rintro _ wc25 ⟨x25, rfl, hR25, hEc25⟩
   refine ⟨_, rfl, fun a hS => ?_⟩
   have hB26 := hB16.ext hEc25 (by simp)
   have hE27 := hE17.trans0 hEc25
   refine sg ww [.p, .p, .p, .p, .p] [] [(0, .agg S.ca), (1, (Pv w.heap.size)), (2, I6 0), (3, I6 0), (7, .bool (decide (Lng S))), (4, I6 ((rcE S x25).2)), (5, I6 ((rcE S x25).1)), (14, .bool true)] 7 0 hS .nil fun a hS => sge hK18 <| sq fun K28 hK28 => sq fun K29 hK29 => ?_
   rcases (show ((rcE S x25).1 ≠ 0) ∨ ((rcE S x25).1 = 0) from by omega) with hr0 | hr0
   ·
    refine rgn 2 <| sd ww [.p, .as (.bool false)] [Value.bool ((((rcE S x25).1 : Int) == 0)) = .bool false] [(21, .bool false)] [] 2 0 hS (.c (as_eq_f (by omega)) .nil) fun a hS => sge hK29 ?_
    refine cond_f hS rfl ?_
    refine wpIn_skip <| hK28 _ _ <| sq fun K30 hK30 => sdq 2 [.p, .as (.bool false)] [Value.bool ((((rcE S x25).1 : Int) == 0)) = .bool false] [(28, .bool false)] [] hS (.c (as_eq_f (by omega)) .nil) fun a hS => ?_
    refine cond_f hS rfl ?_
    refine wpIn_skip <| hK30 _ _ <| sdq 4 [.p, .p, .p, .p] [] [(2, I6 ((rcE S x25).2)), (3, I6 ((rcE S x25).1))] [] hS .nil fun a hS => wpIn_ret ?_
    refine ret2 hS Tryd.results11 rfl rfl ?_
    exact ⟨rcE S x25, .rc hL hI hR25 hr0, rfl, hE27⟩
   ·
    refine rgn 2 <| sd ww [.p, .as (.bool true)] [Value.bool ((((rcE S x25).1 : Int) == 0)) = .bool true] [(21, .bool true)] [] 2 0 hS (.c (as_eq_t (by omega)) .nil) fun a hS => sge hK29 ?_
    refine cond_t hS rfl ?_
    refine rgn 7 <| sd ww [.lds [S.lv, S.nv, I6 S.st, S.pv]] [_, _, _, _] [(23, .agg S.ca)] [] 1 6 hS (hB26.k 0 (hB26.k 1 (hB26.k 2 (hB26.k 3 .nil)))) fun a hS => ecl 5 (some 24) hS Tryd.call48 #[.agg S.ca] (productive_r hG (hb.trans0 hE27) hI) ?_
    rintro _ wp ⟨bsp, hDp, (⟨hfp, rfl⟩ | ⟨hfp, rfl⟩), hEp⟩
    ·
     refine ⟨_, rfl, fun a hS => ?_⟩
     have hE34 := hE27.trans0 hEp
     refine sd ww [.p, .p, .p, .p, .p] [] [(4, I6 (fF bsp 0)), (5, I6 73)] [] 7 0 hS .nil fun a hS => sge hK28 <| sq fun K35 hK35 => sdq 2 [.p, .p] [] [(28, .bool false)] [] hS .nil fun a hS => ?_
     refine cond_f hS rfl ?_
     refine wpIn_skip <| hK35 _ _ <| sdq 4 [.p, .p, .p, .p] [] [(2, I6 (fF bsp 0)), (3, I6 73)] [] hS .nil fun a hS => wpIn_ret ?_
     refine ret2 hS Tryd.results11 rfl rfl ?_
     exact ⟨(73, fF bsp 0), .up hL hI hR25 hr0 hDp hfp, rfl, hE34⟩
    ·
     refine ⟨_, rfl, fun a hS => ?_⟩
     have hB38 := hB26.ext hEp (by simp)
     have hE39 := hE27.trans0 hEp
     refine sd ww [.p, .p, .p, .p, .p] [] [(4, I6 0), (5, I6 0)] [] 7 0 hS .nil fun a hS => sge hK28 <| sq fun K40 hK40 => sdq 2 [.p, .p] [] [(28, .bool true)] [] hS .nil fun a hS => ?_
     refine cond_t hS rfl ?_
     refine rgn 7 <| sd ww [.lds [S.lv, S.nv, I6 S.st, S.pv]] [_, _, _, _] [(30, .agg S.ca)] [] 1 6 hS (hB38.k 0 (hB38.k 1 (hB38.k 2 (hB38.k 3 .nil)))) fun a hS => ecl 5 (some 31) hS Tryd.call49 #[.agg S.ca] (emptied_r hG (hb.trans0 hE39) hI h16) ?_
     rintro _ wc42 ⟨es42, vs42, rfl, hD42, hLn42, hC42, hEc42⟩
     refine ⟨_, rfl, fun a hS => ?_⟩
     have hE44 := hE39.trans0 hEc42
     refine sd ww [.p, .p, .p, .p, .p] [] [(4, I6 ((fE es42 vs42 0).2)), (5, I6 ((fE es42 vs42 0).1))] [] 7 0 hS .nil fun a hS => sge hK40 <| sq fun K45 hK45 => rgn 4 <| sg ww [.p, .p, .p, .p] [] [(0, .agg S.ca), (1, (Pv w.heap.size)), (2, I6 ((fE es42 vs42 0).2)), (3, I6 ((fE es42 vs42 0).1)), (7, .bool (decide (Lng S))), (4, I6 ((fE es42 vs42 0).2)), (5, I6 ((fE es42 vs42 0).1)), (14, .bool true), (21, .bool true), (28, .bool true)] 4 0 hS .nil fun a hS => sge hK45 <| wpIn_ret ?_
     refine ret2 hS Tryd.results11 rfl rfl ?_
     exact ⟨fE es42 vs42 0, .em hL hI hR25 hr0 hDp hfp hD42 hLn42 hC42, rfl, hE44⟩
end Go.Proofs.YtkkpghlcmcaoiaaDoor
namespace Go.Proofs.YtkkpghlcmcaoiaaDoor
open Go.Vc Go.Gm
def Pd.pr (p : Pd) : Int × List Sy := (p.l, p.r)
structure Same (S S' : Sp) : Prop where
 tr : S'.lx.map Lx.tr = S.lx.map Lx.tr
 ns : S'.ns = S.ns
 st : S'.st = S.st
 ps : S'.ps.map Pd.pr = S.ps.map Pd.pr
section
variable {S S' : Sp}
theorem Same.symm (h : Same S S') : Same S' S := ⟨h.tr.symm, h.ns.symm, h.st.symm, h.ps.symm⟩
theorem Same.lx (h : Same S S') : S'.lx.length = S.lx.length := by have := congrArg List.length h.tr; simpa using this
theorem Same.pl (h : Same S S') : S'.ps.length = S.ps.length := by have := congrArg List.length h.ps; simpa using this
theorem Same.tri (h : Same S S') (i : Nat) : S'.lx[i]?.map Lx.tr = S.lx[i]?.map Lx.tr := by
 have := congrArg (fun l => l[i]?) h.tr
 simpa only [List.getElem?_map] using this
theorem Same.nl (h : Same S S') : S'.nl = S.nl := h.lx
theorem Same.g (h : Same S S') : S'.g = S.g := by
 have e : ∀ l : List Pd, (l.map fun p => (p.l.toNat, row p.r)) = (l.map Pd.pr).map fun x => (x.1.toNat, row x.2) := fun l => by rw [List.map_map]; rfl
 unfold Sp.g
 rw [e, e, h.ps]
theorem Same.symE (h : Same S S') (x : Sy) : symE S' x = symE S x := by
 unfold Go.Proofs.YtkkpghlcmcaoiaaDoor.symE
 rw [h.lx, h.tri, h.ns]
theorem Same.rightE (h : Same S S') : ∀ r : List Sy, rightE S' r = rightE S r
 | [] => rfl
 | x :: r => by
  unfold Go.Proofs.YtkkpghlcmcaoiaaDoor.rightE
  rw [h.symE, h.rightE r]
theorem Same.prodE (h : Same S S') {p p' : Pd} (hp : p'.pr = p.pr) : prodE S' p' = prodE S p := by
 have h1 : p'.l = p.l := congrArg Prod.fst hp
 have h2 : p'.r = p.r := congrArg Prod.snd hp
 unfold Go.Proofs.YtkkpghlcmcaoiaaDoor.prodE
 rw [h1, h2, h.ns, h.rightE]
theorem Same.prodsE (h : Same S S') : ∀ (l l' : List Pd) (i : Nat), l'.map Pd.pr = l.map Pd.pr → prodsE S' l' i = prodsE S l i
 | [], [], _, _ => rfl
 | [], _ :: _, _, e => by simp at e
 | _ :: _, [], _, e => by simp at e
 | p :: l, p' :: l', i, e => by
  simp only [List.map_cons, List.cons.injEq] at e
  unfold Go.Proofs.YtkkpghlcmcaoiaaDoor.prodsE
  rw [h.prodE e.1, h.prodsE l l' (i + 1) e.2]
theorem Same.inE (h : Same S S') : inE S' = inE S := by
 unfold Go.Proofs.YtkkpghlcmcaoiaaDoor.inE
 rw [h.st, h.ns, h.prodsE S.ps S'.ps 0 h.ps]
theorem Same.lng (h : Same S S') : Lng S' → Lng S := by
 rintro (h1 | h1 | h1 | ⟨p, hp, h1⟩)
 ·exact .inl (by rw [← h.lx]; exact h1)
 ·exact .inr (.inl (by rw [← h.ns]; exact h1))
 ·exact .inr (.inr (.inl (by rw [← h.pl]; exact h1)))
 ·obtain ⟨q, hq, he⟩ := List.mem_map.1 (show p.pr ∈ S.ps.map Pd.pr from h.ps ▸ List.mem_map.2 ⟨p, hp, rfl⟩)
  have h2 : q.r = p.r := congrArg Prod.snd he
  exact .inr (.inr (.inr ⟨q, hq, by rw [h2]; exact h1⟩))
theorem Same.ix (h : Same S S') (hI : Ix S) : Ix S' := inE_ok.1 (by rw [h.inE]; exact inE_ok.2 hI)
theorem Same.isRc (h : Same S S') {x : RcX} (hx : IsRc S x) : IsRc S' x :=
 ⟨by rw [h.ns]; exact hx.l1, by rw [h.lx]; exact hx.l2, fun B => by rw [h.g, h.st]; exact hx.n B, fun t => by rw [h.g, h.st]; exact hx.r t⟩
theorem fR_tr : ∀ {bs : List Bool} {l l' : List Lx} {i : Nat}, l'.map Lx.tr = l.map Lx.tr → fR bs l' i = fR bs l i
 | _, [], [], _, _ => rfl
 | _, [], _ :: _, _, e => by simp at e
 | _, _ :: _, [], _, e => by simp at e
 | [], _ :: _, _ :: _, _, _ => rfl
 | b :: bs, a :: l, a' :: l', i, e => by
  simp only [List.map_cons, List.cons.injEq] at e
  rw [fR, fR, e.1, fR_tr e.2]
theorem Same.rcE (h : Same S S') (x : RcX) : rcE S' x = rcE S x := by
 unfold Go.Proofs.YtkkpghlcmcaoiaaDoor.rcE
 rw [fR_tr h.tr]
theorem Same.chk (h : Same S S') {z : Int × Int} (hz : ChkR S z) : ChkR S' z := by
 have hl : ¬Lng S → ¬Lng S' := fun hn h' => hn (h.lng h')
 cases hz with
 | lng h1 => exact .lng (h.symm.lng h1)
 | ix h1 h2 => rw [← h.inE] at h2 ⊢; exact .ix (hl h1) h2
 | @rc x h1 h2 h3 h4 => rw [← h.rcE] at h4 ⊢; exact .rc (hl h1) (h.ix h2) (h.isRc h3) h4
 | up h1 h2 h3 h4 h5 h6 => exact .up (hl h1) (h.ix h2) (h.isRc h3) (by rw [h.rcE]; exact h4) (by rw [h.g, h.ns]; exact h5) h6
 | em h1 h2 h3 h4 h5 h6 h7 h8 h9 => exact .em (hl h1) (h.ix h2) (h.isRc h3) (by rw [h.rcE]; exact h4) (by rw [h.g, h.ns]; exact h5) h6 (by rw [h.g, h.ns]; exact h7) (by rw [h.ns]; exact h8) (by rw [h.g]; exact h9)
theorem Same.isTm (h : Same S S') (z : Int) : isTm S' z ↔ isTm S z := by
 unfold Go.Proofs.YtkkpghlcmcaoiaaDoor.isTm
 rw [h.lx, h.tri]
theorem Same.symsE (h : Same S S') : ∀ (r : List Sy) (i : Nat), symsE S' r i = symsE S r i
 | [], _ => rfl
 | x :: r, i => by
  unfold Go.Proofs.YtkkpghlcmcaoiaaDoor.symsE
  rw [h.symE, h.symsE r]
theorem Same.termsE (h : Same S S') : ∀ (l : List Int) (i : Nat), termsE S' l i = termsE S l i
 | [], _ => rfl
 | z :: l, i => by
  unfold Go.Proofs.YtkkpghlcmcaoiaaDoor.termsE
  by_cases hz : Go.Proofs.YtkkpghlcmcaoiaaDoor.isTm S z
  ·rw [if_pos hz, if_pos ((h.isTm z).2 hz), h.termsE l]
  ·rw [if_neg hz, if_neg fun q => hz ((h.isTm z).1 q)]
theorem Same.hdE (h : Same S S') (r : List Sy) (ts : List Int) : hdE S' r ts = hdE S r ts := by
 unfold Go.Proofs.YtkkpghlcmcaoiaaDoor.hdE
 rw [h.symsE, h.termsE]
theorem Same.hdsR (h : Same S S') {r : List Sy} {ts : List Int} {l : List Nat} (hr : HdsR S' r ts l) : HdsR S r ts l := by
 obtain ⟨s, h1, h2, h3⟩ := hr
 exact ⟨s, h1, h2, fun t => by rw [h3, h.g, h.nl]⟩
theorem HdsR.same {r : List Sy} {ts : List Int} {l l' : List Nat} (h : HdsR S r ts l) (h' : HdsR S r ts l') : l = l' := h.rising.ext h'.rising fun t => by rw [h.mem, h'.mem]
end
theorem cells_tr {l : Lx} {n : ByteArray} {b : Bool} {cs : List Value} (h : l.cells = .string n :: .bool b :: cs) : l.tr = b := by
 unfold Lx.cells at h
 simp only [List.cons.injEq, Value.bool.injEq] at h
 exact h.2.1
theorem LentOk.same {w w0 : World} {N : Nat} {S : Sp} {xs : List Ex} {gl gn gp : Nat} {ls : List Lx} {qs : List Pd} (h : LentOk w N S xs gl gn gp ls qs) (hX : PatOk w0 S xs) : Same S (lentS S gl gn gp ls qs) := by
 have h1 := h.lx.len
 have h2 := h.ps.len
 have h3 := hX.len
 refine ⟨?_, rfl, rfl, ?_⟩
 ·show ls.map Lx.tr = S.lx.map Lx.tr
  refine List.ext_getElem? fun i => ?_
  rw [List.getElem?_map, List.getElem?_map]
  rcases Nat.lt_or_ge i S.lx.length with hi | hi
  ·obtain ⟨l, hl⟩ : ∃ l, S.lx[i]? = some l := ⟨_, List.getElem?_eq_getElem hi⟩
   obtain ⟨l', hl'⟩ : ∃ l', ls[i]? = some l' := ⟨_, List.getElem?_eq_getElem (by omega)⟩
   obtain ⟨x, hx⟩ : ∃ x, xs[i]? = some x := ⟨_, List.getElem?_eq_getElem (by omega)⟩
   rw [hl, hl', Option.map_some, Option.map_some, cells_tr (h.lx.is i l l' x hl hl' hx).1]
  ·rw [List.getElem?_eq_none (by omega), List.getElem?_eq_none (by omega)]
 ·show qs.map Pd.pr = S.ps.map Pd.pr
  refine List.ext_getElem? fun i => ?_
  rw [List.getElem?_map, List.getElem?_map]
  rcases Nat.lt_or_ge i S.ps.length with hi | hi
  ·obtain ⟨p, hp⟩ : ∃ p, S.ps[i]? = some p := ⟨_, List.getElem?_eq_getElem hi⟩
   obtain ⟨q, hq⟩ : ∃ q, qs[i]? = some q := ⟨_, List.getElem?_eq_getElem (by omega)⟩
   obtain ⟨e1, e2, _⟩ := h.ps.is i p q hp hq
   rw [hp, hq, Option.map_some, Option.map_some]
   show some (q.l, q.r) = some (p.l, p.r)
   rw [e1, e2]
  ·rw [List.getElem?_eq_none (by omega), List.getElem?_eq_none (by omega)]
end Go.Proofs.YtkkpghlcmcaoiaaDoor
namespace Go.Proofs.YtkkpghlcmcaoiaaDoor
open Go.Vc Go.Gm
theorem Lend_any2 {w0 w : World} {S : Sp} (hG : SpOk w0 S) (hb : Ext [] w0 w) (hX : ∃ xs, PatOk w0 S xs) : Calls Tryd.prog 13 #[.agg S.ca] w fun e w' => ∃ S2 : Sp, e = .returned (.agg #[S2.lv, S2.nv, I6 S2.st, S2.pv]) ∧ SpOk w' S2 ∧ Same S S2 ∧ (∀ w2, Ext [] w' w2 → Calls Tryd.prog 20 #[.agg #[S2.lv, S2.nv, I6 S2.st, S2.pv], .agg S.ca] w2 fun e w3 => e = .returned (.bool true) ∧ Ext [] w2 w3) ∧ Ext [] w w' := by
 obtain ⟨xs, hX⟩ := hX
 refine (Lend_any hG hb hX).mono ?_
 rintro e w' ⟨gl, gn, gp, ls, qs, rfl, hL, hE⟩
 refine ⟨lentS S gl gn gp ls qs, rfl, hL.sp hG, hL.same hX, fun w2 h2 => ?_, hE⟩
 have hk := Kept_any hG ((hb.trans0 hE).trans0 h2) hX (hL.ext0 h2)
 have hc := hL.ca
 unfold Sp.ca at hc
 rw [hc]; exact hk
theorem fault_any {w : World} {z : Int × Int} (h : z.1 = 0 → z = (0, 0)) :
  Calls Tryd.prog 19 #[I6 z.2, I6 z.1] w fun e w' => e = .returned (.agg #[I6 z.1, I6 z.2, .string ⟨#[]⟩]) ∧ Ext [] w w' := by
 refine cbd 11 [(0, I6 z.2), (1, I6 z.1)] Tryd.func19 rfl fun a hS => ?_
 have hE0 : Ext [] w w := Ext.refl _ _
 refine sq fun K1 hK1 => rgn 1 <| ebx 0 #[I6 0, I6 0, .string ⟨#[]⟩] 34 (some 4) hS fun a w2 hw3 hS => ?_
 have hB4 := Blk.nw hw3
 have hs5 := hE0.size
 have hE6 := hE0.al hw3
 refine sge hK1 <| sq fun K7 hK7 => sq fun K8 hK8 => ?_
 rcases (show (z.1 = 0) ∨ (z.1 ≠ 0) from by omega) with h0 | h0
 ·
  refine rgn 2 <| sd ww [.p, .as (.bool true)] [Value.bool (((z.1 : Int) == 0)) = .bool true] [(6, .bool true)] [] 2 0 hS (.c (as_eq_t (by omega)) .nil) fun a hS => sge hK8 ?_
  refine cond_t hS rfl ?_
  refine sq fun K9 hK9 => rgn 2 <| sd ww [.p] [] [(7, .agg #[I6 0, I6 0, .string ⟨#[]⟩])] [] 1 1 hS .nil fun a hS => est 0 w.heap.size 0 [I6 0, I6 0, .string ⟨#[]⟩] hS hB4 fun a w10 hw11 hS => ?_
  have hB12 : Blk w10 w.heap.size 34 (#[I6 0, I6 0, .string ⟨#[]⟩]) := hB4.up hw11
  have hE13 := hE6.ui hw11 hs5
  refine sge hK9 <| wpIn_ret <| then_ret ?_
  refine retA1 hS Tryd.results19 (by kernel_rfl) (by kernel_rfl) rfl hB12 ?_
  exact ⟨by rw [h h0], hE13⟩
 ·
  refine rgn 2 <| sd ww [.p, .as (.bool false)] [Value.bool (((z.1 : Int) == 0)) = .bool false] [(6, .bool false)] [] 2 0 hS (.c (as_eq_f (by omega)) .nil) fun a hS => sge hK8 ?_
  refine cond_f hS rfl ?_
  refine wpIn_skip <| hK7 _ _ <| sq fun K14 hK14 => rgn 4 <| sd ww [.p, .p, .p] [] [(10, .agg #[I6 z.1, I6 z.2, .string ⟨#[]⟩])] [] 3 1 hS .nil fun a hS => est 0 w.heap.size 0 [I6 z.1, I6 z.2, .string ⟨#[]⟩] hS hB4 fun a w15 hw16 hS => ?_
  have hB17 : Blk w15 w.heap.size 34 (#[I6 z.1, I6 z.2, .string ⟨#[]⟩]) := hB4.up hw16
  have hE18 := hE6.ui hw16 hs5
  refine sge hK14 <| wpIn_ret ?_
  refine retA1 hS Tryd.results19 (by kernel_rfl) (by kernel_rfl) rfl hB17 ?_
  exact ⟨rfl, hE18⟩
end Go.Proofs.YtkkpghlcmcaoiaaDoor
