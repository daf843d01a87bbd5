import Derived.Test.YtkkpghlcmcaoiaaDoorS21
import Derived.Test.YtkkpghlcmcaoiaaDoorS18
namespace Go.Proofs.YtkkpghlcmcaoiaaDoor
open Go.Vc Go.Gm
def Sp.with (S : Sp) (pa : Option Addr) (pc : Nat) (ps : List Pd) : Sp := { S with pa := pa, pc := pc, ps := ps }
section
variable {S : Sp} {pa : Option Addr} {pc : Nat} {qs : List Pd}
theorem with_g (h1 : ∀ q ∈ qs, q ∈ S.ps) (h2 : ∀ p ∈ S.ps, p ∈ qs) : ∀ x, x ∈ S.g ↔ x ∈ (S.with pa pc qs).g := fun x => by
 unfold Sp.g Sp.with
 simp only [List.mem_map]
 exact ⟨fun ⟨p, hp, he⟩ => ⟨p, h2 p hp, he⟩, fun ⟨p, hp, he⟩ => ⟨p, h1 p hp, he⟩⟩
theorem GOk.with (h : GOk S) (h1 : ∀ q ∈ qs, q ∈ S.ps) (h2 : ∀ p ∈ S.ps, p ∈ qs) (hl : qs.length ≤ 512) : GOk (S.with pa pc qs) := by
 have hg := with_g (pa := pa) (pc := pc) h1 h2
 have hlg := h.lng
 refine ⟨?_, ⟨h.ix.st, fun p hp => h.ix.left p (h1 p hp), fun p hp => h.ix.right p (h1 p hp)⟩, fun A hA => (Rch.eqv hg).1 (h.nm A hA), fun t r ht hr => (Rch.eqv hg).1 (h.ru t r ht hr), fun A hA => (Der.eqv hg).1 (h.pr A hA), fun A hA hd => ?_⟩
 ·rintro (h3 | h3 | h3 | ⟨p, hp, h3⟩)
  ·exact hlg (.inl h3)
  ·exact hlg (.inr (.inl h3))
  ·have : 512 < qs.length := h3
   omega
  ·exact hlg (.inr (.inr (.inr ⟨p, h1 p hp, h3⟩)))
 ·obtain ⟨k, hk, hc⟩ := h.em A hA ((Der.eqv hg).2 hd)
  exact ⟨k, hk, (CN.eqv hg).1 hc⟩
end
section
variable {S S' : Sp} (hG : ∀ x, x ∈ S.g ↔ x ∈ S'.g) (hn : S.ns.length = S'.ns.length) (hl : S.nl = S'.nl) (hs : S.st = S'.st)
include hG hn hl
theorem FirR.same {a b : List (List Nat)} (h : FirR S a) (h' : FirR S' b) : a = b := by
 obtain ⟨fs, rfl, h1, h2, h3⟩ := h
 obtain ⟨gs, rfl, h4, h5, h6⟩ := h'
 have key : ∀ A t, hF fs A t ↔ hF gs A t := fun A t => by
  rw [h3.iff A t, h6.iff A t, ← hl]
  exact FiN.eqv hG
 refine List.ext_getElem? fun i => ?_
 rw [List.getElem?_map, List.getElem?_map]
 rcases Nat.lt_or_ge i fs.length with hi | hi
 ·obtain ⟨s, hs1⟩ : ∃ s, fs[i]? = some s := ⟨_, List.getElem?_eq_getElem hi⟩
  obtain ⟨t, ht1⟩ : ∃ t, gs[i]? = some t := ⟨_, List.getElem?_eq_getElem (by omega)⟩
  rw [hs1, ht1]
  simp only [Option.map_some, Option.some.injEq]
  refine Rising.ext (tls_rising _) (tls_rising _) fun x => ?_
  rw [mem_tls (h2 s (List.mem_of_getElem? hs1)), mem_tls (h5 t (List.mem_of_getElem? ht1))]
  have := key i x
  unfold hF at this
  rw [gF_at hs1, gF_at ht1] at this
  exact this
 ·rw [List.getElem?_eq_none hi, List.getElem?_eq_none (by omega)]
include hs
theorem FolR.same {a b : List (List Nat)} (h : FolR S a) (h' : FolR S' b) : a = b := by
 obtain ⟨fs, rfl, h1, h2, h3⟩ := h
 obtain ⟨gs, rfl, h4, h5, h6⟩ := h'
 have key : ∀ A t, hF fs A t ↔ hF gs A t := fun A t => by
  rw [h3.iff A t, h6.iff A t, ← hl, ← hs]
  exact Fo.eqv hG
 refine List.ext_getElem? fun i => ?_
 rw [List.getElem?_map, List.getElem?_map]
 rcases Nat.lt_or_ge i fs.length with hi | hi
 ·obtain ⟨s, hs1⟩ : ∃ s, fs[i]? = some s := ⟨_, List.getElem?_eq_getElem hi⟩
  obtain ⟨t, ht1⟩ : ∃ t, gs[i]? = some t := ⟨_, List.getElem?_eq_getElem (by omega)⟩
  rw [hs1, ht1]
  simp only [Option.map_some, Option.some.injEq]
  refine Rising.ext (tls_rising _) (tls_rising _) fun x => ?_
  rw [mem_tls (h2 s (List.mem_of_getElem? hs1)), mem_tls (h5 t (List.mem_of_getElem? ht1))]
  have := key i x
  unfold hF at this
  rw [gF_at hs1, gF_at ht1] at this
  exact this
 ·rw [List.getElem?_eq_none hi, List.getElem?_eq_none (by omega)]
omit hs
omit hl in
theorem LenR.eqv {vs us : List Nat} (h : LenR S vs) (h' : LenR S' us) : vs = us := vf_ext (by rw [h.len, h'.len, hn]) (h.c.same h'.c fun A k => CN.eqv hG)
theorem YldR.same {a b : List (List Nat)} (h : YldR S a) (h' : YldR S' b) : a = b := by
 refine List.ext_getElem? fun i => ?_
 have h1 := h.1
 have h2 := h'.1
 rcases Nat.lt_or_ge i a.length with hi | hi
 ·obtain ⟨s, hs1⟩ : ∃ s, a[i]? = some s := ⟨_, List.getElem?_eq_getElem hi⟩
  obtain ⟨t, ht1⟩ : ∃ t, b[i]? = some t := ⟨_, List.getElem?_eq_getElem (by omega)⟩
  rw [hs1, ht1]
  have e2 := h'.2 i t ht1
  rw [← hl] at e2
  rw [(h.2 i s hs1).same e2 fun u => MN.eqv hG]
 ·rw [List.getElem?_eq_none hi, List.getElem?_eq_none (by omega)]
theorem YoR.same {k k' x x' : Int} {bs bs' : Option Addr} {m m' cp cp' : Nat} {L L' : List Rw} {ls ls' : List (List Nat)} (h : YoR S k x bs m cp L ls) (h' : YoR S' k' x' bs' m' cp' L' ls') : k = k' ∧ x = x' ∧ m = m' ∧ ls = ls' := by
 obtain ⟨vs, hv, h⟩ := h
 obtain ⟨us, hu, h'⟩ := h'
 rw [hv.eqv hG hn hu] at h
 rcases h with ⟨h1, h2, h3, _, h4, _, _, h5⟩ | ⟨h1, h2, h3, h4, h5⟩
 ·rcases h' with ⟨g1, g2, g3, _, g4, _, _, g5⟩ | ⟨g1, g2, g3, g4, g5⟩
  ·exact ⟨h1.trans g1.symm, h3.trans g3.symm, h4.trans g4.symm, h5.trans g5.symm⟩ 
  ·exact absurd g3 h2
 ·rcases h' with ⟨g1, g2, _⟩ | ⟨g1, g2, g3, g4, g5⟩
  ·exact absurd h3 g2
  ·exact ⟨h1.trans g1.symm, h2.trans g2.symm, h4.trans (hn.trans g4.symm), h5.same hG hn hl g5⟩
end
theorem TdOk.same {S S' : Sp} {N N' : Nat} {w w' : World} {T T' : Td} (hG : ∀ x, x ∈ S.g ↔ x ∈ S'.g) (hn : S.ns.length = S'.ns.length) (hl : S.nl = S'.nl) (hs : S.st = S'.st) (h : TdOk S N w T) (h' : TdOk S' N' w' T') :
  T.es = T'.es ∧ T.fl = T'.fl ∧ T.wl = T'.wl ∧ T.yl = T'.yl ∧ T.yn = T'.yn ∧ T.full = T'.full := by
 obtain ⟨k, x, h1, h2⟩ := h.isY
 obtain ⟨k', x', g1, g2⟩ := h'.isY
 obtain ⟨e1, _, e3, e4⟩ := h1.same hG hn hl g1
 have hd := h'.isE
 rw [← hn] at hd
 refine ⟨h.isE.same hd fun A => Der.eqv hG, h.isF.same hG hn hl h'.isF, h.isW.same hG hn hl hs h'.isW, e4, e3, ?_⟩
 rw [← e1] at g2
 cases hf : T.full <;> cases hf' : T'.full
 ·rfl
 ·rw [hf] at h2; rw [hf'] at g2; exact absurd (h2.2 (g2.1 rfl)) (by simp)
 ·rw [hf] at h2; rw [hf'] at g2; exact absurd (g2.2 (h2.1 rfl)) (by simp)
 ·rfl
theorem TdOk.ext0 {S : Sp} {N : Nat} {w w' : World} {T : Td} (h : TdOk S N w T) (hE : Ext [] w w') : TdOk S N w' T :=
 ⟨h.re.ext hE (by simp), h.ne, h.isE, h.lf.ext0 hE, h.isF, h.lw.ext0 hE, h.isW, h.ly.ext0 hE, h.isY, h.afw, h.afy, h.awy⟩
theorem TdOk.max {S : Sp} {N : Nat} {w : World} {T : Td} (h : TdOk S N w T) : (∀ l ∈ T.fl, l.length ≤ 1048576) ∧ (∀ l ∈ T.wl, l.length ≤ 1048576) ∧ ∀ l ∈ T.yl, l.length ≤ 1048576 := by
 obtain ⟨k, x, hy, _⟩ := h.isY
 exact ⟨h.isF.max, h.isW.max, hy.max⟩
theorem told_ok {w0 w : World} {S : Sp} (hG : SpOk w0 S) (hb : Ext [] w0 w) (hT : Tab w0) (hok : GOk S) : Calls Tryd.prog 27 #[.agg #[S.lv, S.nv, I6 S.st, S.pv]] w fun e w' => ∃ T : Td, e = .returned (.tuple #[.agg (T.cells S), .bool true, .bool true]) ∧ TdOk S w.heap.size w' T ∧ Ext [] w w' := by
 refine (told_any hG hb hT).mono ?_
 rintro e w' ⟨z, hZ, h | ⟨_, T, h1, h2⟩, hE⟩
 ·exact absurd (hZ.zero.2.2 hok) h.1
 ·exact ⟨T, h1, h2, hE⟩
structure RowP (N : Nat) (w : World) (bs : Option Addr) (m cq : Nat) (qs : List Pd) : Prop where
 own : OwnV w 73 2 (.slice bs m cq) m (pcells qs)
 new : ∀ x ∈ ob (.slice bs m cq), N ≤ x
theorem pcells_len (qs : List Pd) : (pcells qs).length = qs.length * 2 := flat_len (k := 2) (fun _ => rfl) qs
theorem RowP.len {N : Nat} {w : World} {bs : Option Addr} {m cq : Nat} {qs : List Pd} (h : RowP N w bs m cq qs) : qs.length = m := by
 have := h.own.len
 rw [pcells_len] at this; omega
theorem pcells_snoc (qs : List Pd) (p : Pd) : pcells (qs ++ [p]) = pcells qs ++ [I6 p.l, p.rv] := by simp [pcells, Pd.cells]
theorem RowP.grow {N : Nat} {w w1 : World} {bs : Option Addr} {m cq g ca : Nat} {qs : List Pd} {p : Pd} (h : RowP N w bs m cq qs) (hO : OwnR w1 73 2 g ca (m + 1) (pcells qs ++ [I6 p.l, p.rv])) {M : Nat} (hM : N ≤ M) (hF : Fresh M (ob (.slice bs m cq)) [g]) : RowP N w1 (some ⟨g, 0, none⟩) (m + 1) ca (qs ++ [p]) := by
 refine ⟨by rw [pcells_snoc]; exact hO.v, fun x hx => ?_⟩
 have hx : x = g := by simpa [ob] using hx
 rw [hx]
 rcases hF g (by simp) with h1 | h1
 ·exact h.new _ h1
 ·exact Nat.le_trans hM h1
def its (ts : List Int) : List Value := ts.map I6
theorem its_at {ts : List Int} {j : Nat} {t : Int} (h : ts[j]? = some t) : (its ts)[j * 1]? = some (I6 t) := by rw [Nat.mul_one, its, List.getElem?_map, h]; rfl
end Go.Proofs.YtkkpghlcmcaoiaaDoor
namespace Go.Proofs.YtkkpghlcmcaoiaaDoor
open Go.Vc Go.Gm
end Go.Proofs.YtkkpghlcmcaoiaaDoor
namespace Go.Proofs.YtkkpghlcmcaoiaaDoor
open Go.Vc Go.Gm
end Go.Proofs.YtkkpghlcmcaoiaaDoor
namespace Go.Proofs.YtkkpghlcmcaoiaaDoor
open Go.Vc Go.Gm
theorem FirR.has {S : Sp} {ls : List (List Nat)} (h : FirR S ls) {A a : Nat} {l : List Nat} (hl : ls[A]? = some l) : a ∈ l ↔ FiN S.g S.nl A a := by
 obtain ⟨fs, rfl, _, hk, hFF⟩ := h
 rw [List.getElem?_map] at hl
 obtain ⟨s, hs, rfl⟩ := Option.map_eq_some_iff.1 hl
 rw [mem_tls (hk s (List.mem_of_getElem? hs)), ← hFF.iff A a]
 unfold hF
 rw [gF_at hs]
theorem TdOk.extT {S : Sp} {N : Nat} {w w' : World} {T : Td} (h : TdOk S N w T) {b t : Nat} {cs : Array Value} (hE : Ext [b] w w') (hB : Blk w b t cs) (h1 : 51 ≠ t) (h2 : 3 ≠ t) (h3 : 4 ≠ t) : TdOk S N w' T :=
 ⟨h.re.ext hE (by simpa using h.re.ne_type hB h3), h.ne, h.isE, h.lf.extT hE hB h1 h2, h.isF, h.lw.extT hE hB h1 h2, h.isW, h.ly.extT hE hB h1 h2, h.isY, h.afw, h.afy, h.awy⟩
theorem Lsts.at' {N : Nat} {w : World} {bs : Option Addr} {n cp : Nat} {L : List Rw} {ls : List (List Nat)} (h : Lsts N w bs n cp L ls) {k : Nat} {l : List Nat} (hk : ls[k]? = some l) : ∃ u, (L.map Rw.v)[k]? = some u ∧ RdV w 1 u l.length (ivs l) := by
 have hl := h.len
 obtain ⟨x, hx⟩ : ∃ x, L[k]? = some x := ⟨_, List.getElem?_eq_getElem (by have := (List.getElem?_eq_some_iff.1 hk).1; omega)⟩
 have he := congrArg (fun l => l[k]?) h.is
 simp only [List.getElem?_map, hx, hk, Option.map_some, Option.some.injEq, Prod.mk.injEq] at he
 refine ⟨x.v, by rw [List.getElem?_map, hx]; rfl, ?_⟩
 have := (h.fam.own k x hx).rd
 rw [he.1, he.2] at this
 exact this
def Td.blks (T : Td) : List Nat := T.eg :: ((oa T.fb ++ bl T.fL) ++ ((oa T.wb ++ bl T.wL) ++ (oa T.yb ++ bl T.yL)))
theorem Lsts.extD {N : Nat} {w w' : World} {bs : Option Addr} {n cp : Nat} {L : List Rw} {ls : List (List Nat)} {M : List Nat} (h : Lsts N w bs n cp L ls) (hE : Ext M w w') (hM : ∀ x ∈ oa bs ++ bl L, x ∉ M) : Lsts N w' bs n cp L ls :=
 ⟨h.own.ext hE fun b hb => hM b (List.mem_append.2 (.inl (by rw [← ob_oa]; exact hb))), h.new, h.fam.ext hE fun _ _ hx b hb => hM b (List.mem_append.2 (.inr (bl_mem hx b hb))), h.is⟩
theorem TdOk.extD {S : Sp} {N : Nat} {w w' : World} {T : Td} {M : List Nat} (h : TdOk S N w T) (hE : Ext M w w') (hM : ∀ x ∈ T.blks, x ∉ M) : TdOk S N w' T :=
 ⟨h.re.ext hE (hM _ (by simp [Td.blks])), h.ne, h.isE, h.lf.extD hE (fun x hx => hM x (List.mem_cons_of_mem _ (List.mem_append.2 (.inl hx)))), h.isF,
  h.lw.extD hE (fun x hx => hM x (List.mem_cons_of_mem _ (List.mem_append.2 (.inr (List.mem_append.2 (.inl hx)))))), h.isW,
  h.ly.extD hE (fun x hx => hM x (List.mem_cons_of_mem _ (List.mem_append.2 (.inr (List.mem_append.2 (.inr hx)))))), h.isY, h.afw, h.afy, h.awy⟩
theorem TdOk.lie {S : Sp} {N : Nat} {w : World} {T : Td} (h : TdOk S N w T) : ∀ x ∈ T.blks, x < w.heap.size := fun x hx => by
 rcases List.mem_cons.1 hx with h1 | h1
 ·rw [h1]; obtain ⟨cur, hB, _⟩ := h.re.row; exact hB.lt
 ·rcases List.mem_append.1 h1 with h1 | h1
  ·exact h.lf.lie x h1
  ·rcases List.mem_append.1 h1 with h1 | h1
   ·exact h.lw.lie x h1
   ·exact h.ly.lie x h1
theorem FolR.at {S : Sp} {ls : List (List Nat)} (h : FolR S ls) {A a : Nat} (hf : Fo S.g S.nl S.st.toNat A a) : ∃ l, ls[A]? = some l ∧ a ∈ l := by
 obtain ⟨fs, rfl, _, hk, hO⟩ := h
 have h1 : hF fs A a := (hO.iff A a).2 hf
 unfold hF at h1
 cases hA : fs[A]? with
 | none => simp [gF, hA, has_none] at h1
 | some s =>
  rw [gF_at hA] at h1
  exact ⟨tls s, by rw [List.getElem?_map, hA]; rfl, (mem_tls (hk s (List.mem_of_getElem? hA))).2 h1⟩
end Go.Proofs.YtkkpghlcmcaoiaaDoor
