import Derived.Test.YtkkpghlcmcaoiaaDoorS11
import Derived.Test.YtkkpghlcmcaoiaaDoorLe
import Derived.Test.YtkkpghlcmcaoiaaDoorSt4
namespace Go.Proofs.YtkkpghlcmcaoiaaDoor
open Go.Vc Go.Gm
section
variable {S : Sp}
def symsE (S : Sp) : List Sy → Nat → Int × Int
 | [], _ => (0, 0)
 | x :: r, i => if symE S x ≠ 0 then (symE S x, (i : Int)) else symsE S r (i + 1)
theorem symsE_step {r : List Sy} {i : Nat} {x : Sy} (h : r[i]? = some x) : symsE S (r.drop i) i = if symE S x ≠ 0 then (symE S x, (i : Int)) else symsE S (r.drop (i + 1)) (i + 1) := by rw [drop_of h]; rfl
theorem symsE_zero : ∀ {r : List Sy} {i : Nat}, (symsE S r i).1 = 0 → symsE S r i = (0, 0) ∧ ∀ x ∈ r, syOk S x
 | [], _, _ => ⟨rfl, fun x hx => by cases hx⟩
 | x :: r, i, h => by
  rw [symsE] at h ⊢
  split
  ·rename_i h1; rw [if_pos h1] at h; exact absurd h h1
  ·rename_i h1
   rw [if_neg h1] at h
   obtain ⟨h2, h3⟩ := symsE_zero h
   exact ⟨h2, fun y hy => by
    rcases List.mem_cons.1 hy with rfl | hy
    ·exact symE_ok.1 (by simpa using h1)
    ·exact h3 y hy⟩
theorem symsE_ok : ∀ {r : List Sy} {i : Nat}, (∀ x ∈ r, syOk S x) → symsE S r i = (0, 0)
 | [], _, _ => rfl
 | x :: r, i, h => by
  rw [symsE, if_neg (by rw [symE_ok.2 (h x (by simp))]; simp)]
  exact symsE_ok fun y hy => h y (by simp [hy])
def isTm (S : Sp) (z : Int) : Prop := z = S.lx.length ∨ z = S.lx.length + 1 ∨ (0 ≤ z ∧ z < S.lx.length ∧ S.lx[z.toNat]?.map Lx.tr ≠ some true)
instance (S : Sp) (z : Int) : Decidable (isTm S z) := inferInstanceAs (Decidable (_ ∨ _))
theorem isTm.lt {z : Int} (h : isTm S z) (hl : S.lx.length ≤ 64) : 0 ≤ z ∧ z < 128 := by unfold isTm at h; omega
def termsE (S : Sp) : List Int → Nat → Int × Int
 | [], _ => (0, 0)
 | z :: l, i => if isTm S z then termsE S l (i + 1) else (74, (i : Int))
theorem termsE_step {l : List Int} {i : Nat} {z : Int} (h : l[i]? = some z) : termsE S (l.drop i) i = if isTm S z then termsE S (l.drop (i + 1)) (i + 1) else (74, (i : Int)) := by rw [drop_of h]; rfl
theorem termsE_ok : ∀ {l : List Int} {i : Nat}, (∀ z ∈ l, isTm S z) → termsE S l i = (0, 0)
 | [], _, _ => rfl
 | z :: l, i, h => by
  rw [termsE, if_pos (h z (by simp))]
  exact termsE_ok fun y hy => h y (by simp [hy])
def hdE (S : Sp) (r : List Sy) (ts : List Int) : Int × Int := if 16 < r.length then (2, 0) else if (symsE S r 0).1 ≠ 0 then symsE S r 0 else termsE S ts 0
structure NxS (ts : List Int) (s : Se) : Prop where
 ok : s.ok
 iff : ∀ t : Nat, has s t = true ↔ (t : Int) ∈ ts
theorem NxS.start : NxS [] (0, 0) := ⟨ok_none, fun t => by rw [has_none]; simp⟩
theorem NxS.step {ts : List Int} {s : Se} (h : NxS ts s) {z : Int} (h0 : 0 ≤ z) (h1 : z < 128) : NxS (ts ++ [z]) (un s (sgl z.toNat)) :=
 ⟨ok_un h.ok (ok_sgl (by omega)), fun t => by
  rw [has_un, Bool.or_eq_true, h.iff, has_sgl]
  simp only [decide_eq_true_eq, List.mem_append, List.mem_singleton]
  exact or_congr Iff.rfl ⟨fun h => by omega, fun h => by omega⟩⟩
def HdsR (S : Sp) (r : List Sy) (ts : List Int) (l : List Nat) : Prop := ∃ s : Se, l = tls s ∧ s.ok ∧ ∀ t : Nat, has s t = true ↔ FiR S.g S.nl (row r) t ∨ (NuR S.g (row r) ∧ (t : Int) ∈ ts)
theorem HdsR.mem {r : List Sy} {ts : List Int} {l : List Nat} (h : HdsR S r ts l) (t : Nat) : t ∈ l ↔ FiR S.g S.nl (row r) t ∨ (NuR S.g (row r) ∧ (t : Int) ∈ ts) := by
 obtain ⟨s, rfl, h1, h2⟩ := h
 rw [mem_tls h1, h2]
theorem HdsR.rising {r : List Sy} {ts : List Int} {l : List Nat} (h : HdsR S r ts l) : Rising l := by
 obtain ⟨s, rfl, _⟩ := h
 exact tls_rising s
theorem HdsR.max {r : List Sy} {ts : List Int} {l : List Nat} (h : HdsR S r ts l) : l.length ≤ 128 := by
 obtain ⟨s, rfl, _⟩ := h
 exact tls_len s
theorem Sml_of (hl : S.lx.length ≤ 64) {r : List Sy} (h : ∀ x ∈ r, syOk S x) : Sml S.nl (row r) := by
 refine ⟨by unfold Sp.nl; omega, fun n hn => ?_⟩
 obtain ⟨x, hx, he⟩ := List.mem_map.1 hn
 rcases sy_kinds (h x hx) with ⟨_, h1, h2, h3⟩ | ⟨_, _, h3⟩ | ⟨_, _, _, h3⟩
 ·rw [h3] at he; cases he; omega
 ·rw [h3] at he; cases he
 ·rw [h3] at he; cases he
theorem HdsR.of {es : List Bool} {fs : List Se} (hes : IsD S.g false S.ns.length es) (hF : IsF S.g S.nl (hF fs)) (hok : ∀ s ∈ fs, Se.ok s) (hl : S.lx.length ≤ 64) {r : List Sy} (hr : ∀ x ∈ r, syOk S x) {ts : List Int} {n : Se} (hn : NxS ts n) :
  HdsR S r ts (tls (if (hdS S.nl fs es (row r)).2 = true then un (hdS S.nl fs es (row r)).1 n else (hdS S.nl fs es (row r)).1)) ∧ (if (hdS S.nl fs es (row r)).2 = true then un (hdS S.nl fs es (row r)).1 n else (hdS S.nl fs es (row r)).1).ok := by
 have h1 := hdS_ok (es := es) hok (Sml_of hl hr)
 have h2 : ∀ t, has (hdS S.nl fs es (row r)).1 t = true ↔ FiR S.g S.nl (row r) t := fun t => by
  rw [hdS_has, ← hF.hd]
  exact ⟨Hd_mono (fun _ _ h => h) (fun A h => (hes.iff A).1 h), Hd_mono (fun _ _ h => h) (fun A h => (hes.iff A).2 h)⟩
 have h3 : (hdS S.nl fs es (row r)).2 = true ↔ NuR S.g (row r) := by
  rw [hdS_em, ← Em_nu]
  exact Em_congr hes.iff
 have h4 : (if (hdS S.nl fs es (row r)).2 = true then un (hdS S.nl fs es (row r)).1 n else (hdS S.nl fs es (row r)).1).ok := by
  split
  ·exact ok_un h1 hn.ok
  ·exact h1
 refine ⟨⟨_, rfl, h4, fun t => ?_⟩, h4⟩
 split
 ·rename_i h
  rw [has_un, Bool.or_eq_true, h2, hn.iff]
  exact or_congr Iff.rfl ⟨fun q => ⟨h3.1 h, q⟩, fun q => q.2⟩
 ·rename_i h
  rw [h2]
  exact ⟨.inl, fun q => q.elim id fun q => absurd (h3.2 q.1) h⟩
end
end Go.Proofs.YtkkpghlcmcaoiaaDoor
namespace Go.Proofs.YtkkpghlcmcaoiaaDoor
open Go.Vc Go.Gm
def Pd.pr (p : Pd) : Int × List Sy := (p.l, p.r)
structure Same (S S' : Sp) : Prop where
 tr : S'.lx.map Lx.tr = S.lx.map Lx.tr
 ns : S'.ns = S.ns
 st : S'.st = S.st
 ps : S'.ps.map Pd.pr = S.ps.map Pd.pr
section
variable {S S' : Sp}
theorem Same.symm (h : Same S S') : Same S' S := ⟨h.tr.symm, h.ns.symm, h.st.symm, h.ps.symm⟩
theorem Same.lx (h : Same S S') : S'.lx.length = S.lx.length := by have := congrArg List.length h.tr; simpa using this
theorem Same.pl (h : Same S S') : S'.ps.length = S.ps.length := by have := congrArg List.length h.ps; simpa using this
theorem Same.tri (h : Same S S') (i : Nat) : S'.lx[i]?.map Lx.tr = S.lx[i]?.map Lx.tr := by
 have := congrArg (fun l => l[i]?) h.tr
 simpa only [List.getElem?_map] using this
theorem Same.nl (h : Same S S') : S'.nl = S.nl := h.lx
theorem Same.g (h : Same S S') : S'.g = S.g := by
 have e : ∀ l : List Pd, (l.map fun p => (p.l.toNat, row p.r)) = (l.map Pd.pr).map fun x => (x.1.toNat, row x.2) := fun l => by rw [List.map_map]; rfl
 unfold Sp.g
 rw [e, e, h.ps]
theorem Same.symE (h : Same S S') (x : Sy) : symE S' x = symE S x := by
 unfold Go.Proofs.YtkkpghlcmcaoiaaDoor.symE
 rw [h.lx, h.tri, h.ns]
theorem Same.rightE (h : Same S S') : ∀ r : List Sy, rightE S' r = rightE S r
 | [] => rfl
 | x :: r => by
  unfold Go.Proofs.YtkkpghlcmcaoiaaDoor.rightE
  rw [h.symE, h.rightE r]
theorem Same.prodE (h : Same S S') {p p' : Pd} (hp : p'.pr = p.pr) : prodE S' p' = prodE S p := by
 have h1 : p'.l = p.l := congrArg Prod.fst hp
 have h2 : p'.r = p.r := congrArg Prod.snd hp
 unfold Go.Proofs.YtkkpghlcmcaoiaaDoor.prodE
 rw [h1, h2, h.ns, h.rightE]
theorem Same.prodsE (h : Same S S') : ∀ (l l' : List Pd) (i : Nat), l'.map Pd.pr = l.map Pd.pr → prodsE S' l' i = prodsE S l i
 | [], [], _, _ => rfl
 | [], _ :: _, _, e => by simp at e
 | _ :: _, [], _, e => by simp at e
 | p :: l, p' :: l', i, e => by
  simp only [List.map_cons, List.cons.injEq] at e
  unfold Go.Proofs.YtkkpghlcmcaoiaaDoor.prodsE
  rw [h.prodE e.1, h.prodsE l l' (i + 1) e.2]
theorem Same.inE (h : Same S S') : inE S' = inE S := by
 unfold Go.Proofs.YtkkpghlcmcaoiaaDoor.inE
 rw [h.st, h.ns, h.prodsE S.ps S'.ps 0 h.ps]
theorem Same.lng (h : Same S S') : Lng S' → Lng S := by
 rintro (h1 | h1 | h1 | ⟨p, hp, h1⟩)
 ·exact .inl (by rw [← h.lx]; exact h1)
 ·exact .inr (.inl (by rw [← h.ns]; exact h1))
 ·exact .inr (.inr (.inl (by rw [← h.pl]; exact h1)))
 ·obtain ⟨q, hq, he⟩ := List.mem_map.1 (show p.pr ∈ S.ps.map Pd.pr from h.ps ▸ List.mem_map.2 ⟨p, hp, rfl⟩)
  have h2 : q.r = p.r := congrArg Prod.snd he
  exact .inr (.inr (.inr ⟨q, hq, by rw [h2]; exact h1⟩))
theorem Same.ix (h : Same S S') (hI : Ix S) : Ix S' := inE_ok.1 (by rw [h.inE]; exact inE_ok.2 hI)
theorem Same.isRc (h : Same S S') {x : RcX} (hx : IsRc S x) : IsRc S' x :=
 ⟨by rw [h.ns]; exact hx.l1, by rw [h.lx]; exact hx.l2, fun B => by rw [h.g, h.st]; exact hx.n B, fun t => by rw [h.g, h.st]; exact hx.r t⟩
theorem fR_tr : ∀ {bs : List Bool} {l l' : List Lx} {i : Nat}, l'.map Lx.tr = l.map Lx.tr → fR bs l' i = fR bs l i
 | _, [], [], _, _ => rfl
 | _, [], _ :: _, _, e => by simp at e
 | _, _ :: _, [], _, e => by simp at e
 | [], _ :: _, _ :: _, _, _ => rfl
 | b :: bs, a :: l, a' :: l', i, e => by
  simp only [List.map_cons, List.cons.injEq] at e
  rw [fR, fR, e.1, fR_tr e.2]
theorem Same.rcE (h : Same S S') (x : RcX) : rcE S' x = rcE S x := by
 unfold Go.Proofs.YtkkpghlcmcaoiaaDoor.rcE
 rw [fR_tr h.tr]
theorem Same.chk (h : Same S S') {z : Int × Int} (hz : ChkR S z) : ChkR S' z := by
 have hl : ¬Lng S → ¬Lng S' := fun hn h' => hn (h.lng h')
 cases hz with
 | lng h1 => exact .lng (h.symm.lng h1)
 | ix h1 h2 => rw [← h.inE] at h2 ⊢; exact .ix (hl h1) h2
 | @rc x h1 h2 h3 h4 => rw [← h.rcE] at h4 ⊢; exact .rc (hl h1) (h.ix h2) (h.isRc h3) h4
 | up h1 h2 h3 h4 h5 h6 => exact .up (hl h1) (h.ix h2) (h.isRc h3) (by rw [h.rcE]; exact h4) (by rw [h.g, h.ns]; exact h5) h6
 | em h1 h2 h3 h4 h5 h6 h7 h8 h9 => exact .em (hl h1) (h.ix h2) (h.isRc h3) (by rw [h.rcE]; exact h4) (by rw [h.g, h.ns]; exact h5) h6 (by rw [h.g, h.ns]; exact h7) (by rw [h.ns]; exact h8) (by rw [h.g]; exact h9)
theorem Same.isTm (h : Same S S') (z : Int) : isTm S' z ↔ isTm S z := by
 unfold Go.Proofs.YtkkpghlcmcaoiaaDoor.isTm
 rw [h.lx, h.tri]
theorem Same.symsE (h : Same S S') : ∀ (r : List Sy) (i : Nat), symsE S' r i = symsE S r i
 | [], _ => rfl
 | x :: r, i => by
  unfold Go.Proofs.YtkkpghlcmcaoiaaDoor.symsE
  rw [h.symE, h.symsE r]
theorem Same.termsE (h : Same S S') : ∀ (l : List Int) (i : Nat), termsE S' l i = termsE S l i
 | [], _ => rfl
 | z :: l, i => by
  unfold Go.Proofs.YtkkpghlcmcaoiaaDoor.termsE
  by_cases hz : Go.Proofs.YtkkpghlcmcaoiaaDoor.isTm S z
  ·rw [if_pos hz, if_pos ((h.isTm z).2 hz), h.termsE l]
  ·rw [if_neg hz, if_neg fun q => hz ((h.isTm z).1 q)]
theorem Same.hdE (h : Same S S') (r : List Sy) (ts : List Int) : hdE S' r ts = hdE S r ts := by
 unfold Go.Proofs.YtkkpghlcmcaoiaaDoor.hdE
 rw [h.symsE, h.termsE]
theorem HdsR.same {r : List Sy} {ts : List Int} {l l' : List Nat} (h : HdsR S r ts l) (h' : HdsR S r ts l') : l = l' := h.rising.ext h'.rising fun t => by rw [h.mem, h'.mem]
end
theorem cells_tr {l : Lx} {n : ByteArray} {b : Bool} {cs : List Value} (h : l.cells = .string n :: .bool b :: cs) : l.tr = b := by
 unfold Lx.cells at h
 simp only [List.cons.injEq, Value.bool.injEq] at h
 exact h.2.1
theorem LentOk.same {w w0 : World} {N : Nat} {S : Sp} {xs : List Ex} {gl gn gp : Nat} {ls : List Lx} {qs : List Pd} (h : LentOk w N S xs gl gn gp ls qs) (hX : PatOk w0 S xs) : Same S (lentS S gl gn gp ls qs) := by
 have h1 := h.lx.len
 have h2 := h.ps.len
 have h3 := hX.len
 refine ⟨?_, rfl, rfl, ?_⟩
 ·show ls.map Lx.tr = S.lx.map Lx.tr
  refine List.ext_getElem? fun i => ?_
  rw [List.getElem?_map, List.getElem?_map]
  rcases Nat.lt_or_ge i S.lx.length with hi | hi
  ·obtain ⟨l, hl⟩ : ∃ l, S.lx[i]? = some l := ⟨_, List.getElem?_eq_getElem hi⟩
   obtain ⟨l', hl'⟩ : ∃ l', ls[i]? = some l' := ⟨_, List.getElem?_eq_getElem (by omega)⟩
   obtain ⟨x, hx⟩ : ∃ x, xs[i]? = some x := ⟨_, List.getElem?_eq_getElem (by omega)⟩
   rw [hl, hl', Option.map_some, Option.map_some, cells_tr (h.lx.is i l l' x hl hl' hx).1]
  ·rw [List.getElem?_eq_none (by omega), List.getElem?_eq_none (by omega)]
 ·show qs.map Pd.pr = S.ps.map Pd.pr
  refine List.ext_getElem? fun i => ?_
  rw [List.getElem?_map, List.getElem?_map]
  rcases Nat.lt_or_ge i S.ps.length with hi | hi
  ·obtain ⟨p, hp⟩ : ∃ p, S.ps[i]? = some p := ⟨_, List.getElem?_eq_getElem hi⟩
   obtain ⟨q, hq⟩ : ∃ q, qs[i]? = some q := ⟨_, List.getElem?_eq_getElem (by omega)⟩
   obtain ⟨e1, e2, _⟩ := h.ps.is i p q hp hq
   rw [hp, hq, Option.map_some, Option.map_some]
   show some (q.l, q.r) = some (p.l, p.r)
   rw [e1, e2]
  ·rw [List.getElem?_eq_none (by omega), List.getElem?_eq_none (by omega)]
end Go.Proofs.YtkkpghlcmcaoiaaDoor
