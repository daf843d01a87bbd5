/- Another order of productions, some twice: what is told is the same. No program. -/
import Derived.Test.YtkkpghlcmcaoiaaDoorS21
namespace Go.Proofs.YtkkpghlcmcaoiaaDoor
open Go.Vc Go.Gm

/-- the same spec with other productions -/
def Sp.with (S : Sp) (pa : Option Addr) (pc : Nat) (ps : List Pd) : Sp := { S with pa := pa, pc := pc, ps := ps }
section
variable {S : Sp} {pa : Option Addr} {pc : Nat} {qs : List Pd}
theorem with_g (h1 : ∀ q ∈ qs, q ∈ S.ps) (h2 : ∀ p ∈ S.ps, p ∈ qs) : ∀ x, x ∈ S.g ↔ x ∈ (S.with pa pc qs).g := fun x => by
  unfold Sp.g Sp.with
  simp only [List.mem_map]
  exact ⟨fun ⟨p, hp, he⟩ => ⟨p, h2 p hp, he⟩, fun ⟨p, hp, he⟩ => ⟨p, h1 p hp, he⟩⟩
theorem GOk.with (h : GOk S) (h1 : ∀ q ∈ qs, q ∈ S.ps) (h2 : ∀ p ∈ S.ps, p ∈ qs) (hl : qs.length ≤ 512) : GOk (S.with pa pc qs) := by
  have hg := with_g (pa := pa) (pc := pc) h1 h2
  have hlg := h.lng
  refine ⟨?_, ⟨h.ix.st, fun p hp => h.ix.left p (h1 p hp), fun p hp => h.ix.right p (h1 p hp)⟩, fun A hA => (Rch.eqv hg).1 (h.nm A hA), fun t r ht hr => (Rch.eqv hg).1 (h.ru t r ht hr), fun A hA => (Der.eqv hg).1 (h.pr A hA), fun A hA hd => ?_⟩
  · rintro (h3 | h3 | h3 | ⟨p, hp, h3⟩)
    · exact hlg (.inl h3)
    · exact hlg (.inr (.inl h3))
    · have : 512 < qs.length := h3
      omega
    · exact hlg (.inr (.inr (.inr ⟨p, h1 p hp, h3⟩)))
  · obtain ⟨k, hk, hc⟩ := h.em A hA ((Der.eqv hg).2 hd)
    exact ⟨k, hk, (CN.eqv hg).1 hc⟩
end
section
variable {S S' : Sp} (hG : ∀ x, x ∈ S.g ↔ x ∈ S'.g) (hn : S.ns.length = S'.ns.length) (hl : S.nl = S'.nl) (hs : S.st = S'.st)
include hG hn hl
theorem FirR.same {a b : List (List Nat)} (h : FirR S a) (h' : FirR S' b) : a = b := by
  obtain ⟨fs, rfl, h1, h2, h3⟩ := h
  obtain ⟨gs, rfl, h4, h5, h6⟩ := h'
  have key : ∀ A t, hF fs A t ↔ hF gs A t := fun A t => by
    rw [h3.iff A t, h6.iff A t, ← hl]
    exact FiN.eqv hG
  refine List.ext_getElem? fun i => ?_
  rw [List.getElem?_map, List.getElem?_map]
  rcases Nat.lt_or_ge i fs.length with hi | hi
  · obtain ⟨s, hs1⟩ : ∃ s, fs[i]? = some s := ⟨_, List.getElem?_eq_getElem hi⟩
    obtain ⟨t, ht1⟩ : ∃ t, gs[i]? = some t := ⟨_, List.getElem?_eq_getElem (by omega)⟩
    rw [hs1, ht1]
    simp only [Option.map_some, Option.some.injEq]
    refine Rising.ext (tls_rising _) (tls_rising _) fun x => ?_
    rw [mem_tls (h2 s (List.mem_of_getElem? hs1)), mem_tls (h5 t (List.mem_of_getElem? ht1))]
    have := key i x
    unfold hF at this
    rw [gF_at hs1, gF_at ht1] at this
    exact this
  · rw [List.getElem?_eq_none hi, List.getElem?_eq_none (by omega)]
include hs
theorem FolR.same {a b : List (List Nat)} (h : FolR S a) (h' : FolR S' b) : a = b := by
  obtain ⟨fs, rfl, h1, h2, h3⟩ := h
  obtain ⟨gs, rfl, h4, h5, h6⟩ := h'
  have key : ∀ A t, hF fs A t ↔ hF gs A t := fun A t => by
    rw [h3.iff A t, h6.iff A t, ← hl, ← hs]
    exact Fo.eqv hG
  refine List.ext_getElem? fun i => ?_
  rw [List.getElem?_map, List.getElem?_map]
  rcases Nat.lt_or_ge i fs.length with hi | hi
  · obtain ⟨s, hs1⟩ : ∃ s, fs[i]? = some s := ⟨_, List.getElem?_eq_getElem hi⟩
    obtain ⟨t, ht1⟩ : ∃ t, gs[i]? = some t := ⟨_, List.getElem?_eq_getElem (by omega)⟩
    rw [hs1, ht1]
    simp only [Option.map_some, Option.some.injEq]
    refine Rising.ext (tls_rising _) (tls_rising _) fun x => ?_
    rw [mem_tls (h2 s (List.mem_of_getElem? hs1)), mem_tls (h5 t (List.mem_of_getElem? ht1))]
    have := key i x
    unfold hF at this
    rw [gF_at hs1, gF_at ht1] at this
    exact this
  · rw [List.getElem?_eq_none hi, List.getElem?_eq_none (by omega)]
omit hs
omit hl in
theorem LenR.eqv {vs us : List Nat} (h : LenR S vs) (h' : LenR S' us) : vs = us := vf_ext (by rw [h.len, h'.len, hn]) (h.c.same h'.c fun A k => CN.eqv hG)
theorem YldR.same {a b : List (List Nat)} (h : YldR S a) (h' : YldR S' b) : a = b := by
  refine List.ext_getElem? fun i => ?_
  have h1 := h.1
  have h2 := h'.1
  rcases Nat.lt_or_ge i a.length with hi | hi
  · obtain ⟨s, hs1⟩ : ∃ s, a[i]? = some s := ⟨_, List.getElem?_eq_getElem hi⟩
    obtain ⟨t, ht1⟩ : ∃ t, b[i]? = some t := ⟨_, List.getElem?_eq_getElem (by omega)⟩
    rw [hs1, ht1]
    have e2 := h'.2 i t ht1
    rw [← hl] at e2
    rw [(h.2 i s hs1).same e2 fun u => MN.eqv hG]
  · rw [List.getElem?_eq_none hi, List.getElem?_eq_none (by omega)]
theorem YoR.same {k k' x x' : Int} {bs bs' : Option Addr} {m m' cp cp' : Nat} {L L' : List Rw} {ls ls' : List (List Nat)} (h : YoR S k x bs m cp L ls) (h' : YoR S' k' x' bs' m' cp' L' ls') : k = k' ∧ x = x' ∧ m = m' ∧ ls = ls' := by
  obtain ⟨vs, hv, h⟩ := h
  obtain ⟨us, hu, h'⟩ := h'
  rw [hv.eqv hG hn hu] at h
  rcases h with ⟨h1, h2, h3, _, h4, _, _, h5⟩ | ⟨h1, h2, h3, h4, h5⟩
  · rcases h' with ⟨g1, g2, g3, _, g4, _, _, g5⟩ | ⟨g1, g2, g3, g4, g5⟩
    · exact ⟨h1.trans g1.symm, h3.trans g3.symm, h4.trans g4.symm, h5.trans g5.symm⟩ 
    · exact absurd g3 h2
  · rcases h' with ⟨g1, g2, _⟩ | ⟨g1, g2, g3, g4, g5⟩
    · exact absurd h3 g2
    · exact ⟨h1.trans g1.symm, h2.trans g2.symm, h4.trans (hn.trans g4.symm), h5.same hG hn hl g5⟩
end
/-- another told of the same -/
theorem TdOk.same {S S' : Sp} {N N' : Nat} {w w' : World} {T T' : Td} (hG : ∀ x, x ∈ S.g ↔ x ∈ S'.g) (hn : S.ns.length = S'.ns.length) (hl : S.nl = S'.nl) (hs : S.st = S'.st) (h : TdOk S N w T) (h' : TdOk S' N' w' T') :
    T.es = T'.es ∧ T.fl = T'.fl ∧ T.wl = T'.wl ∧ T.yl = T'.yl ∧ T.yn = T'.yn ∧ T.full = T'.full := by
  obtain ⟨k, x, h1, h2⟩ := h.isY
  obtain ⟨k', x', g1, g2⟩ := h'.isY
  obtain ⟨e1, _, e3, e4⟩ := h1.same hG hn hl g1
  have hd := h'.isE
  rw [← hn] at hd
  refine ⟨h.isE.same hd fun A => Der.eqv hG, h.isF.same hG hn hl h'.isF, h.isW.same hG hn hl hs h'.isW, e4, e3, ?_⟩
  rw [← e1] at g2
  cases hf : T.full <;> cases hf' : T'.full
  · rfl
  · rw [hf] at h2; rw [hf'] at g2; exact absurd (h2.2 (g2.1 rfl)) (by simp)
  · rw [hf] at h2; rw [hf'] at g2; exact absurd (g2.2 (h2.1 rfl)) (by simp)
  · rfl
theorem TdOk.ext0 {S : Sp} {N : Nat} {w w' : World} {T : Td} (h : TdOk S N w T) (hE : Ext [] w w') : TdOk S N w' T :=
  ⟨h.re.ext hE (by simp), h.ne, h.isE, h.lf.ext0 hE, h.isF, h.lw.ext0 hE, h.isW, h.ly.ext0 hE, h.isY, h.afw, h.afy, h.awy⟩
theorem TdOk.max {S : Sp} {N : Nat} {w : World} {T : Td} (h : TdOk S N w T) : (∀ l ∈ T.fl, l.length ≤ 1048576) ∧ (∀ l ∈ T.wl, l.length ≤ 1048576) ∧ ∀ l ∈ T.yl, l.length ≤ 1048576 := by
  obtain ⟨k, x, hy, _⟩ := h.isY
  exact ⟨h.isF.max, h.isW.max, hy.max⟩
/-- productions that are owned, and new -/
structure RowP (N : Nat) (w : World) (bs : Option Addr) (m cq : Nat) (qs : List Pd) : Prop where
  own : OwnV w 73 2 (.slice bs m cq) m (pcells qs)
  new : ∀ x ∈ ob (.slice bs m cq), N ≤ x
theorem pcells_len (qs : List Pd) : (pcells qs).length = qs.length * 2 := flat_len (k := 2) (fun _ => rfl) qs
theorem RowP.len {N : Nat} {w : World} {bs : Option Addr} {m cq : Nat} {qs : List Pd} (h : RowP N w bs m cq qs) : qs.length = m := by
  have := h.own.len
  rw [pcells_len] at this; omega
theorem pcells_snoc (qs : List Pd) (p : Pd) : pcells (qs ++ [p]) = pcells qs ++ [I6 p.l, p.rv] := by simp [pcells, Pd.cells]
theorem RowP.grow {N : Nat} {w w1 : World} {bs : Option Addr} {m cq g ca : Nat} {qs : List Pd} {p : Pd} (h : RowP N w bs m cq qs) (hO : OwnR w1 73 2 g ca (m + 1) (pcells qs ++ [I6 p.l, p.rv])) {M : Nat} (hM : N ≤ M) (hF : Fresh M (ob (.slice bs m cq)) [g]) : RowP N w1 (some ⟨g, 0, none⟩) (m + 1) ca (qs ++ [p]) := by
  refine ⟨by rw [pcells_snoc]; exact hO.v, fun x hx => ?_⟩
  have hx : x = g := by simpa [ob] using hx
  rw [hx]
  rcases hF g (by simp) with h1 | h1
  · exact h.new _ h1
  · exact Nat.le_trans hM h1
def its (ts : List Int) : List Value := ts.map I6
theorem its_at {ts : List Int} {j : Nat} {t : Int} (h : ts[j]? = some t) : (its ts)[j * 1]? = some (I6 t) := by rw [Nat.mul_one, its, List.getElem?_map, h]; rfl
end Go.Proofs.YtkkpghlcmcaoiaaDoor
