import Derived.Test.YtkkpghlcmcaoiaaDoorS42
import Derived.Test.YtkkpghlcmcaoiaaDoorS21
import Derived.Test.YtkkpghlcmcaoiaaDoorS52
namespace Go.Proofs.YtkkpghlcmcaoiaaDoor
open Go.Vc Go.Gm
theorem Check_r {w0 w : World} {S : Sp} (hG : SpOk w0 S) (hb : Ext [] w0 w) :
  Calls Tryd.prog 11 #[.agg S.ca] w fun e w' => ∃ z : Int × Int, ChkR S z ∧ e = .returned (.tuple #[I6 z.2, I6 z.1]) ∧ Ext [] w w' := by
 have hlmax := hG.lmax
 have hnmax := hG.nmax
 have hpmax := hG.pmax
 refine cbd 36 [(0, .agg S.ca)] Tryd.func11 rfl fun a hS => ?_
 have hE0 : Ext [] w w := Ext.refl _ _
 refine sq fun K1 hK1 => rgn 3 <| ebx 2 S.ca 26 (some 1) hS fun a w2 hw3 hS => ?_
 have hB4 := Blk.nw hw3
 have hs5 := hE0.size
 have hE6 := hE0.al hw3
 refine sd ww [.p, .p] [] [(2, I6 0), (3, I6 0)] [] 3 0 hS .nil fun a hS => sge hK1 <| sq fun K7 hK7 => sq fun K8 hK8 => rgn 2 <| sd ww [.lds [S.lv, S.nv, I6 S.st, S.pv]] [_, _, _, _] [(6, .agg S.ca)] [] 1 1 hS (hB4.k 0 (hB4.k 1 (hB4.k 2 (hB4.k 3 .nil)))) fun a hS => ecl 0 (some 7) hS Tryd.call45 #[.agg S.ca] (Long_r hG (hb.trans0 hE6)) ?_
 rintro _ wc9 ⟨rfl, hEc9⟩
 refine ⟨_, rfl, fun a hS => ?_⟩
 have hB10 := hB4.ext hEc9 (by simp)
 have hE11 := hE6.trans0 hEc9
 refine sge hK8 ?_
 refine cond_b hS rfl (fun hb12 => ?_) (fun hb12 => ?_)
 ·
  replace hb12 := of_decide_eq_true hb12
  have hL : Lng S := hb12
  refine sdq 2 [.p, .p] [] [(3, I6 2)] [] hS .nil fun a hS => wpIn_ret <| then_ret ?_
  refine ret2 hS Tryd.results11 rfl rfl ?_
  exact ⟨(2, 0), .lng hL, rfl, hE11⟩
 ·
  replace hb12 := of_decide_eq_false hb12
  have hL : ¬Lng S := hb12
  have h16 : ∀ p ∈ S.ps, p.r.length ≤ 16 := fun p hp => by
   rcases Nat.lt_or_ge 16 p.r.length with h | h
   ·exact absurd (.inr (.inr (.inr ⟨p, hp, h⟩))) hL
   ·exact h
  refine wpIn_skip <| hK7 _ _ <| sq fun K14 hK14 => rgn 7 <| sd ww [.lds [S.lv, S.nv, I6 S.st, S.pv]] [_, _, _, _] [(9, .agg S.ca)] [] 1 6 hS (hB10.k 0 (hB10.k 1 (hB10.k 2 (hB10.k 3 .nil)))) fun a hS => ecl 5 (some 10) hS Tryd.call46 #[.agg S.ca] (indices_r hG (hb.trans0 hE11)) ?_
  rintro _ wc15 ⟨rfl, hEc15⟩
  refine ⟨_, rfl, fun a hS => ?_⟩
  have hB16 := hB10.ext hEc15 (by simp)
  have hE17 := hE11.trans0 hEc15
  refine sd ww [.p, .p, .p, .p, .p] [] [(4, I6 ((inE S).2)), (5, I6 ((inE S).1))] [] 7 0 hS .nil fun a hS => sge hK14 <| sq fun K18 hK18 => sq fun K19 hK19 => ?_
  rcases (show ((inE S).1 ≠ 0) ∨ ((inE S).1 = 0) from by omega) with h1 | h1
  ·
   refine rgn 2 <| sd ww [.p, .as (.bool false)] [Value.bool ((((inE S).1 : Int) == 0)) = .bool false] [(14, .bool false)] [] 2 0 hS (.c (as_eq_f (by omega)) .nil) fun a hS => sge hK19 ?_
   refine cond_f hS rfl ?_
   refine wpIn_skip <| hK18 _ _ <| sq fun K20 hK20 => sdq 2 [.p, .as (.bool false)] [Value.bool ((((inE S).1 : Int) == 0)) = .bool false] [(21, .bool false)] [] hS (.c (as_eq_f (by omega)) .nil) fun a hS => ?_
   refine cond_f hS rfl ?_
   refine wpIn_skip <| hK20 _ _ <| sq fun K22 hK22 => sq fun K23 hK23 => rgn 2 <| sg ww [.p, .as (.bool false)] [Value.bool ((((inE S).1 : Int) == 0)) = .bool false] [(0, .agg S.ca), (1, (Pv w.heap.size)), (2, I6 0), (3, I6 0), (7, .bool (decide (Lng S))), (4, I6 ((inE S).2)), (5, I6 ((inE S).1)), (14, .bool false), (21, .bool false), (28, .bool false)] 2 0 hS (.c (as_eq_f (by omega)) .nil) fun a hS => sge hK23 ?_
   refine cond_f hS rfl ?_
   refine wpIn_skip <| hK22 _ _ <| sdq 4 [.p, .p, .p, .p] [] [(2, I6 ((inE S).2)), (3, I6 ((inE S).1))] [] hS .nil fun a hS => wpIn_ret ?_
   refine ret2 hS Tryd.results11 rfl rfl ?_
   exact ⟨inE S, .ix hL h1, rfl, hE17⟩
  ·
   have hI := inE_ok.1 h1
   refine rgn 2 <| sd ww [.p, .as (.bool true)] [Value.bool ((((inE S).1 : Int) == 0)) = .bool true] [(14, .bool true)] [] 2 0 hS (.c (as_eq_t (by omega)) .nil) fun a hS => sge hK19 ?_
   refine cond_t hS rfl ?_
   refine rgn 7 <| sd ww [.lds [S.lv, S.nv, I6 S.st, S.pv]] [_, _, _, _] [(16, .agg S.ca)] [] 1 6 hS (hB16.k 0 (hB16.k 1 (hB16.k 2 (hB16.k 3 .nil)))) fun a hS => ecl 5 (some 17) hS Tryd.call47 #[.agg S.ca] (reached_r hG (hb.trans0 hE17) hI) ?_
   rintro _ wc25 ⟨x25, rfl, hR25, hEc25⟩
   refine ⟨_, rfl, fun a hS => ?_⟩
   have hB26 := hB16.ext hEc25 (by simp)
   have hE27 := hE17.trans0 hEc25
   refine sg ww [.p, .p, .p, .p, .p] [] [(0, .agg S.ca), (1, (Pv w.heap.size)), (2, I6 0), (3, I6 0), (7, .bool (decide (Lng S))), (4, I6 ((rcE S x25).2)), (5, I6 ((rcE S x25).1)), (14, .bool true)] 7 0 hS .nil fun a hS => sge hK18 <| sq fun K28 hK28 => sq fun K29 hK29 => ?_
   rcases (show ((rcE S x25).1 ≠ 0) ∨ ((rcE S x25).1 = 0) from by omega) with hr0 | hr0
   ·
    refine rgn 2 <| sd ww [.p, .as (.bool false)] [Value.bool ((((rcE S x25).1 : Int) == 0)) = .bool false] [(21, .bool false)] [] 2 0 hS (.c (as_eq_f (by omega)) .nil) fun a hS => sge hK29 ?_
    refine cond_f hS rfl ?_
    refine wpIn_skip <| hK28 _ _ <| sq fun K30 hK30 => sdq 2 [.p, .as (.bool false)] [Value.bool ((((rcE S x25).1 : Int) == 0)) = .bool false] [(28, .bool false)] [] hS (.c (as_eq_f (by omega)) .nil) fun a hS => ?_
    refine cond_f hS rfl ?_
    refine wpIn_skip <| hK30 _ _ <| sdq 4 [.p, .p, .p, .p] [] [(2, I6 ((rcE S x25).2)), (3, I6 ((rcE S x25).1))] [] hS .nil fun a hS => wpIn_ret ?_
    refine ret2 hS Tryd.results11 rfl rfl ?_
    exact ⟨rcE S x25, .rc hL hI hR25 hr0, rfl, hE27⟩
   ·
    refine rgn 2 <| sd ww [.p, .as (.bool true)] [Value.bool ((((rcE S x25).1 : Int) == 0)) = .bool true] [(21, .bool true)] [] 2 0 hS (.c (as_eq_t (by omega)) .nil) fun a hS => sge hK29 ?_
    refine cond_t hS rfl ?_
    refine rgn 7 <| sd ww [.lds [S.lv, S.nv, I6 S.st, S.pv]] [_, _, _, _] [(23, .agg S.ca)] [] 1 6 hS (hB26.k 0 (hB26.k 1 (hB26.k 2 (hB26.k 3 .nil)))) fun a hS => ecl 5 (some 24) hS Tryd.call48 #[.agg S.ca] (productive_r hG (hb.trans0 hE27) hI) ?_
    rintro _ wp ⟨bsp, hDp, (⟨hfp, rfl⟩ | ⟨hfp, rfl⟩), hEp⟩
    ·
     refine ⟨_, rfl, fun a hS => ?_⟩
     have hE34 := hE27.trans0 hEp
     refine sd ww [.p, .p, .p, .p, .p] [] [(4, I6 (fF bsp 0)), (5, I6 73)] [] 7 0 hS .nil fun a hS => sge hK28 <| sq fun K35 hK35 => sdq 2 [.p, .p] [] [(28, .bool false)] [] hS .nil fun a hS => ?_
     refine cond_f hS rfl ?_
     refine wpIn_skip <| hK35 _ _ <| sdq 4 [.p, .p, .p, .p] [] [(2, I6 (fF bsp 0)), (3, I6 73)] [] hS .nil fun a hS => wpIn_ret ?_
     refine ret2 hS Tryd.results11 rfl rfl ?_
     exact ⟨(73, fF bsp 0), .up hL hI hR25 hr0 hDp hfp, rfl, hE34⟩
    ·
     refine ⟨_, rfl, fun a hS => ?_⟩
     have hB38 := hB26.ext hEp (by simp)
     have hE39 := hE27.trans0 hEp
     refine sd ww [.p, .p, .p, .p, .p] [] [(4, I6 0), (5, I6 0)] [] 7 0 hS .nil fun a hS => sge hK28 <| sq fun K40 hK40 => sdq 2 [.p, .p] [] [(28, .bool true)] [] hS .nil fun a hS => ?_
     refine cond_t hS rfl ?_
     refine rgn 7 <| sd ww [.lds [S.lv, S.nv, I6 S.st, S.pv]] [_, _, _, _] [(30, .agg S.ca)] [] 1 6 hS (hB38.k 0 (hB38.k 1 (hB38.k 2 (hB38.k 3 .nil)))) fun a hS => ecl 5 (some 31) hS Tryd.call49 #[.agg S.ca] (emptied_r hG (hb.trans0 hE39) hI h16) ?_
     rintro _ wc42 ⟨es42, vs42, rfl, hD42, hLn42, hC42, hEc42⟩
     refine ⟨_, rfl, fun a hS => ?_⟩
     have hE44 := hE39.trans0 hEc42
     refine sd ww [.p, .p, .p, .p, .p] [] [(4, I6 ((fE es42 vs42 0).2)), (5, I6 ((fE es42 vs42 0).1))] [] 7 0 hS .nil fun a hS => sge hK40 <| sq fun K45 hK45 => rgn 4 <| sg ww [.p, .p, .p, .p] [] [(0, .agg S.ca), (1, (Pv w.heap.size)), (2, I6 ((fE es42 vs42 0).2)), (3, I6 ((fE es42 vs42 0).1)), (7, .bool (decide (Lng S))), (4, I6 ((fE es42 vs42 0).2)), (5, I6 ((fE es42 vs42 0).1)), (14, .bool true), (21, .bool true), (28, .bool true)] 4 0 hS .nil fun a hS => sge hK45 <| wpIn_ret ?_
     refine ret2 hS Tryd.results11 rfl rfl ?_
     exact ⟨fE es42 vs42 0, .em hL hI hR25 hr0 hDp hfp hD42 hLn42 hC42, rfl, hE44⟩
end Go.Proofs.YtkkpghlcmcaoiaaDoor
namespace Go.Proofs.YtkkpghlcmcaoiaaDoor
open Go.Vc Go.Gm
def Sp.with (S : Sp) (pa : Option Addr) (pc : Nat) (ps : List Pd) : Sp := { S with pa := pa, pc := pc, ps := ps }
section
variable {S : Sp} {pa : Option Addr} {pc : Nat} {qs : List Pd}
theorem with_g (h1 : ∀ q ∈ qs, q ∈ S.ps) (h2 : ∀ p ∈ S.ps, p ∈ qs) : ∀ x, x ∈ S.g ↔ x ∈ (S.with pa pc qs).g := fun x => by
 unfold Sp.g Sp.with
 simp only [List.mem_map]
 exact ⟨fun ⟨p, hp, he⟩ => ⟨p, h2 p hp, he⟩, fun ⟨p, hp, he⟩ => ⟨p, h1 p hp, he⟩⟩
theorem GOk.with (h : GOk S) (h1 : ∀ q ∈ qs, q ∈ S.ps) (h2 : ∀ p ∈ S.ps, p ∈ qs) (hl : qs.length ≤ 512) : GOk (S.with pa pc qs) := by
 have hg := with_g (pa := pa) (pc := pc) h1 h2
 have hlg := h.lng
 refine ⟨?_, ⟨h.ix.st, fun p hp => h.ix.left p (h1 p hp), fun p hp => h.ix.right p (h1 p hp)⟩, fun A hA => (Rch.eqv hg).1 (h.nm A hA), fun t r ht hr => (Rch.eqv hg).1 (h.ru t r ht hr), fun A hA => (Der.eqv hg).1 (h.pr A hA), fun A hA hd => ?_⟩
 ·rintro (h3 | h3 | h3 | ⟨p, hp, h3⟩)
  ·exact hlg (.inl h3)
  ·exact hlg (.inr (.inl h3))
  ·have : 512 < qs.length := h3
   omega
  ·exact hlg (.inr (.inr (.inr ⟨p, h1 p hp, h3⟩)))
 ·obtain ⟨k, hk, hc⟩ := h.em A hA ((Der.eqv hg).2 hd)
  exact ⟨k, hk, (CN.eqv hg).1 hc⟩
end
section
variable {S S' : Sp} (hG : ∀ x, x ∈ S.g ↔ x ∈ S'.g) (hn : S.ns.length = S'.ns.length) (hl : S.nl = S'.nl) (hs : S.st = S'.st)
include hG hn hl
theorem FirR.same {a b : List (List Nat)} (h : FirR S a) (h' : FirR S' b) : a = b := by
 obtain ⟨fs, rfl, h1, h2, h3⟩ := h
 obtain ⟨gs, rfl, h4, h5, h6⟩ := h'
 have key : ∀ A t, hF fs A t ↔ hF gs A t := fun A t => by
  rw [h3.iff A t, h6.iff A t, ← hl]
  exact FiN.eqv hG
 refine List.ext_getElem? fun i => ?_
 rw [List.getElem?_map, List.getElem?_map]
 rcases Nat.lt_or_ge i fs.length with hi | hi
 ·obtain ⟨s, hs1⟩ : ∃ s, fs[i]? = some s := ⟨_, List.getElem?_eq_getElem hi⟩
  obtain ⟨t, ht1⟩ : ∃ t, gs[i]? = some t := ⟨_, List.getElem?_eq_getElem (by omega)⟩
  rw [hs1, ht1]
  simp only [Option.map_some, Option.some.injEq]
  refine Rising.ext (tls_rising _) (tls_rising _) fun x => ?_
  rw [mem_tls (h2 s (List.mem_of_getElem? hs1)), mem_tls (h5 t (List.mem_of_getElem? ht1))]
  have := key i x
  unfold hF at this
  rw [gF_at hs1, gF_at ht1] at this
  exact this
 ·rw [List.getElem?_eq_none hi, List.getElem?_eq_none (by omega)]
include hs
theorem FolR.same {a b : List (List Nat)} (h : FolR S a) (h' : FolR S' b) : a = b := by
 obtain ⟨fs, rfl, h1, h2, h3⟩ := h
 obtain ⟨gs, rfl, h4, h5, h6⟩ := h'
 have key : ∀ A t, hF fs A t ↔ hF gs A t := fun A t => by
  rw [h3.iff A t, h6.iff A t, ← hl, ← hs]
  exact Fo.eqv hG
 refine List.ext_getElem? fun i => ?_
 rw [List.getElem?_map, List.getElem?_map]
 rcases Nat.lt_or_ge i fs.length with hi | hi
 ·obtain ⟨s, hs1⟩ : ∃ s, fs[i]? = some s := ⟨_, List.getElem?_eq_getElem hi⟩
  obtain ⟨t, ht1⟩ : ∃ t, gs[i]? = some t := ⟨_, List.getElem?_eq_getElem (by omega)⟩
  rw [hs1, ht1]
  simp only [Option.map_some, Option.some.injEq]
  refine Rising.ext (tls_rising _) (tls_rising _) fun x => ?_
  rw [mem_tls (h2 s (List.mem_of_getElem? hs1)), mem_tls (h5 t (List.mem_of_getElem? ht1))]
  have := key i x
  unfold hF at this
  rw [gF_at hs1, gF_at ht1] at this
  exact this
 ·rw [List.getElem?_eq_none hi, List.getElem?_eq_none (by omega)]
omit hs
omit hl in
theorem LenR.eqv {vs us : List Nat} (h : LenR S vs) (h' : LenR S' us) : vs = us := vf_ext (by rw [h.len, h'.len, hn]) (h.c.same h'.c fun A k => CN.eqv hG)
theorem YldR.same {a b : List (List Nat)} (h : YldR S a) (h' : YldR S' b) : a = b := by
 refine List.ext_getElem? fun i => ?_
 have h1 := h.1
 have h2 := h'.1
 rcases Nat.lt_or_ge i a.length with hi | hi
 ·obtain ⟨s, hs1⟩ : ∃ s, a[i]? = some s := ⟨_, List.getElem?_eq_getElem hi⟩
  obtain ⟨t, ht1⟩ : ∃ t, b[i]? = some t := ⟨_, List.getElem?_eq_getElem (by omega)⟩
  rw [hs1, ht1]
  have e2 := h'.2 i t ht1
  rw [← hl] at e2
  rw [(h.2 i s hs1).same e2 fun u => MN.eqv hG]
 ·rw [List.getElem?_eq_none hi, List.getElem?_eq_none (by omega)]
theorem YoR.same {k k' x x' : Int} {bs bs' : Option Addr} {m m' cp cp' : Nat} {L L' : List Rw} {ls ls' : List (List Nat)} (h : YoR S k x bs m cp L ls) (h' : YoR S' k' x' bs' m' cp' L' ls') : k = k' ∧ x = x' ∧ m = m' ∧ ls = ls' := by
 obtain ⟨vs, hv, h⟩ := h
 obtain ⟨us, hu, h'⟩ := h'
 rw [hv.eqv hG hn hu] at h
 rcases h with ⟨h1, h2, h3, _, h4, _, _, h5⟩ | ⟨h1, h2, h3, h4, h5⟩
 ·rcases h' with ⟨g1, g2, g3, _, g4, _, _, g5⟩ | ⟨g1, g2, g3, g4, g5⟩
  ·exact ⟨h1.trans g1.symm, h3.trans g3.symm, h4.trans g4.symm, h5.trans g5.symm⟩ 
  ·exact absurd g3 h2
 ·rcases h' with ⟨g1, g2, _⟩ | ⟨g1, g2, g3, g4, g5⟩
  ·exact absurd h3 g2
  ·exact ⟨h1.trans g1.symm, h2.trans g2.symm, h4.trans (hn.trans g4.symm), h5.same hG hn hl g5⟩
end
theorem TdOk.same {S S' : Sp} {N N' : Nat} {w w' : World} {T T' : Td} (hG : ∀ x, x ∈ S.g ↔ x ∈ S'.g) (hn : S.ns.length = S'.ns.length) (hl : S.nl = S'.nl) (hs : S.st = S'.st) (h : TdOk S N w T) (h' : TdOk S' N' w' T') :
  T.es = T'.es ∧ T.fl = T'.fl ∧ T.wl = T'.wl ∧ T.yl = T'.yl ∧ T.yn = T'.yn ∧ T.full = T'.full := by
 obtain ⟨k, x, h1, h2⟩ := h.isY
 obtain ⟨k', x', g1, g2⟩ := h'.isY
 obtain ⟨e1, _, e3, e4⟩ := h1.same hG hn hl g1
 have hd := h'.isE
 rw [← hn] at hd
 refine ⟨h.isE.same hd fun A => Der.eqv hG, h.isF.same hG hn hl h'.isF, h.isW.same hG hn hl hs h'.isW, e4, e3, ?_⟩
 rw [← e1] at g2
 cases hf : T.full <;> cases hf' : T'.full
 ·rfl
 ·rw [hf] at h2; rw [hf'] at g2; exact absurd (h2.2 (g2.1 rfl)) (by simp)
 ·rw [hf] at h2; rw [hf'] at g2; exact absurd (g2.2 (h2.1 rfl)) (by simp)
 ·rfl
theorem TdOk.ext0 {S : Sp} {N : Nat} {w w' : World} {T : Td} (h : TdOk S N w T) (hE : Ext [] w w') : TdOk S N w' T :=
 ⟨h.re.ext hE (by simp), h.ne, h.isE, h.lf.ext0 hE, h.isF, h.lw.ext0 hE, h.isW, h.ly.ext0 hE, h.isY, h.afw, h.afy, h.awy⟩
theorem TdOk.max {S : Sp} {N : Nat} {w : World} {T : Td} (h : TdOk S N w T) : (∀ l ∈ T.fl, l.length ≤ 1048576) ∧ (∀ l ∈ T.wl, l.length ≤ 1048576) ∧ ∀ l ∈ T.yl, l.length ≤ 1048576 := by
 obtain ⟨k, x, hy, _⟩ := h.isY
 exact ⟨h.isF.max, h.isW.max, hy.max⟩
structure RowP (N : Nat) (w : World) (bs : Option Addr) (m cq : Nat) (qs : List Pd) : Prop where
 own : OwnV w 73 2 (.slice bs m cq) m (pcells qs)
 new : ∀ x ∈ ob (.slice bs m cq), N ≤ x
theorem pcells_len (qs : List Pd) : (pcells qs).length = qs.length * 2 := flat_len (k := 2) (fun _ => rfl) qs
theorem RowP.len {N : Nat} {w : World} {bs : Option Addr} {m cq : Nat} {qs : List Pd} (h : RowP N w bs m cq qs) : qs.length = m := by
 have := h.own.len
 rw [pcells_len] at this; omega
theorem pcells_snoc (qs : List Pd) (p : Pd) : pcells (qs ++ [p]) = pcells qs ++ [I6 p.l, p.rv] := by simp [pcells, Pd.cells]
theorem RowP.grow {N : Nat} {w w1 : World} {bs : Option Addr} {m cq g ca : Nat} {qs : List Pd} {p : Pd} (h : RowP N w bs m cq qs) (hO : OwnR w1 73 2 g ca (m + 1) (pcells qs ++ [I6 p.l, p.rv])) {M : Nat} (hM : N ≤ M) (hF : Fresh M (ob (.slice bs m cq)) [g]) : RowP N w1 (some ⟨g, 0, none⟩) (m + 1) ca (qs ++ [p]) := by
 refine ⟨by rw [pcells_snoc]; exact hO.v, fun x hx => ?_⟩
 have hx : x = g := by simpa [ob] using hx
 rw [hx]
 rcases hF g (by simp) with h1 | h1
 ·exact h.new _ h1
 ·exact Nat.le_trans hM h1
def its (ts : List Int) : List Value := ts.map I6
end Go.Proofs.YtkkpghlcmcaoiaaDoor
namespace Go.Proofs.YtkkpghlcmcaoiaaDoor
open Go.Vc Go.Gm
theorem First_n {w0 w : World} {S : Sp} (hG : SpOk w0 S) (hb : Ext [] w0 w) (hI : Ix S) : Calls Tryd.prog 24 #[.agg S.ca] w fun e w' => ∃ bs m cp L, e = .returned (.slice bs m cp) ∧ Bst w.heap.size (S.lx.length + 2) w' bs m cp L ∧ L.length = S.ns.length ∧ IsF S.g S.nl (onF (L.map Prod.snd)) ∧ Ext [] w w' := First_r hG hb hI
theorem Nullable_n {w0 w : World} {S : Sp} (hG : SpOk w0 S) (hb : Ext [] w0 w) (hI : Ix S) : Calls Tryd.prog 22 #[.agg S.ca] w fun e w' => ∃ g E, e = .returned (Sn S g) ∧ NuE S w' g E ∧ Ext [] w w' := by
 refine (Nullable_r hG hb hI).mono ?_
 rintro e w' ⟨g, E, rfl, hO, hD, _, hE⟩
 exact ⟨g, E, rfl, ⟨hO, hD⟩, hE⟩
theorem Check_n {w0 w : World} {S : Sp} (hG : SpOk w0 S) (hb : Ext [] w0 w) : Calls Tryd.prog 11 #[.agg S.ca] w fun e w' => ∃ z : Int × Int, e = .returned (.tuple #[I6 z.2, I6 z.1]) ∧ ChkR S z ∧ Ext [] w w' := by
 refine (Check_r hG hb).mono ?_
 rintro e w' ⟨z, hZ, rfl, hE⟩
 exact ⟨z, rfl, hZ, hE⟩
theorem heads_w {args : Array Value} {w : World} {nl n : Nat} {F : List (List Bool)} {E nx : List Bool} {r : List Sm} (h : Calls Tryd.prog 68 args w fun e w' => ∃ g o, e = .returned (Sl g n n) ∧ OwnR w' 4 1 g n n (bls o) ∧ HbR nl F E nx r o ∧ w.heap.size ≤ g ∧ Ext [] w w') :
  Calls Tryd.prog 68 args w fun e w' => ∃ bs o, e = .returned (.slice bs n n) ∧ OwnV w' 4 1 (.slice bs n n) n (bls o) ∧ (∀ x ∈ ob (.slice bs n n), w.heap.size ≤ x) ∧ HbR nl F E nx r o ∧ Ext [] w w' := by
 refine h.mono ?_
 rintro e w' ⟨g, o, rfl, hO, hR, hg, hE⟩
 exact ⟨_, o, rfl, hO.v, fun x hx => by simp [ob] at hx; rw [hx]; exact hg, hR, hE⟩
end Go.Proofs.YtkkpghlcmcaoiaaDoor
