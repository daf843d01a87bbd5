/- Heads' plain law: its faults in their order; with what a row begins, next behind it. -/
import Derived.Test.YtkkpghlcmcaoiaaDoorS11
namespace Go.Proofs.YtkkpghlcmcaoiaaDoor
open Go.Vc Go.Gm

section
variable {S : Sp}
/-- the first symbol that names nothing, and its place -/
def symsE (S : Sp) : List Sy → Nat → Int × Int
  | [], _ => (0, 0)
  | x :: r, i => if symE S x ≠ 0 then (symE S x, (i : Int)) else symsE S r (i + 1)
theorem symsE_step {r : List Sy} {i : Nat} {x : Sy} (h : r[i]? = some x) : symsE S (r.drop i) i = if symE S x ≠ 0 then (symE S x, (i : Int)) else symsE S (r.drop (i + 1)) (i + 1) := by rw [drop_of h]; rfl
theorem symsE_zero : ∀ {r : List Sy} {i : Nat}, (symsE S r i).1 = 0 → symsE S r i = (0, 0) ∧ ∀ x ∈ r, syOk S x
  | [], _, _ => ⟨rfl, fun x hx => by cases hx⟩
  | x :: r, i, h => by
    rw [symsE] at h ⊢
    split
    · rename_i h1; rw [if_pos h1] at h; exact absurd h h1
    · rename_i h1
      rw [if_neg h1] at h
      obtain ⟨h2, h3⟩ := symsE_zero h
      exact ⟨h2, fun y hy => by
        rcases List.mem_cons.1 hy with rfl | hy
        · exact symE_ok.1 (by simpa using h1)
        · exact h3 y hy⟩
theorem symsE_ok : ∀ {r : List Sy} {i : Nat}, (∀ x ∈ r, syOk S x) → symsE S r i = (0, 0)
  | [], _, _ => rfl
  | x :: r, i, h => by
    rw [symsE, if_neg (by rw [symE_ok.2 (h x (by simp))]; simp)]
    exact symsE_ok fun y hy => h y (by simp [hy])
/-- the numbers of terminals -/
def isTm (S : Sp) (z : Int) : Prop := z = S.lx.length ∨ z = S.lx.length + 1 ∨ (0 ≤ z ∧ z < S.lx.length ∧ S.lx[z.toNat]?.map Lx.tr ≠ some true)
instance (S : Sp) (z : Int) : Decidable (isTm S z) := inferInstanceAs (Decidable (_ ∨ _))
theorem isTm.lt {z : Int} (h : isTm S z) (hl : S.lx.length ≤ 64) : 0 ≤ z ∧ z < 128 := by unfold isTm at h; omega
def termsE (S : Sp) : List Int → Nat → Int × Int
  | [], _ => (0, 0)
  | z :: l, i => if isTm S z then termsE S l (i + 1) else (74, (i : Int))
theorem termsE_step {l : List Int} {i : Nat} {z : Int} (h : l[i]? = some z) : termsE S (l.drop i) i = if isTm S z then termsE S (l.drop (i + 1)) (i + 1) else (74, (i : Int)) := by rw [drop_of h]; rfl
theorem termsE_ok : ∀ {l : List Int} {i : Nat}, (∀ z ∈ l, isTm S z) → termsE S l i = (0, 0)
  | [], _, _ => rfl
  | z :: l, i, h => by
    rw [termsE, if_pos (h z (by simp))]
    exact termsE_ok fun y hy => h y (by simp [hy])
/-- the fault of Heads, of a spec in order -/
def hdE (S : Sp) (r : List Sy) (ts : List Int) : Int × Int := if 16 < r.length then (2, 0) else if (symsE S r 0).1 ≠ 0 then symsE S r 0 else termsE S ts 0
/-- the terminals that may stand behind, as a set -/
structure NxS (ts : List Int) (s : Se) : Prop where
  ok : s.ok
  iff : ∀ t : Nat, has s t = true ↔ (t : Int) ∈ ts
theorem NxS.start : NxS [] (0, 0) := ⟨ok_none, fun t => by rw [has_none]; simp⟩
theorem NxS.step {ts : List Int} {s : Se} (h : NxS ts s) {z : Int} (h0 : 0 ≤ z) (h1 : z < 128) : NxS (ts ++ [z]) (un s (sgl z.toNat)) :=
  ⟨ok_un h.ok (ok_sgl (by omega)), fun t => by
    rw [has_un, Bool.or_eq_true, h.iff, has_sgl]
    simp only [decide_eq_true_eq, List.mem_append, List.mem_singleton]
    exact or_congr Iff.rfl ⟨fun h => by omega, fun h => by omega⟩⟩
/-- what Heads tells -/
def HdsR (S : Sp) (r : List Sy) (ts : List Int) (l : List Nat) : Prop := ∃ s : Se, l = tls s ∧ s.ok ∧ ∀ t : Nat, has s t = true ↔ FiR S.g S.nl (row r) t ∨ (NuR S.g (row r) ∧ (t : Int) ∈ ts)
theorem HdsR.mem {r : List Sy} {ts : List Int} {l : List Nat} (h : HdsR S r ts l) (t : Nat) : t ∈ l ↔ FiR S.g S.nl (row r) t ∨ (NuR S.g (row r) ∧ (t : Int) ∈ ts) := by
  obtain ⟨s, rfl, h1, h2⟩ := h
  rw [mem_tls h1, h2]
theorem HdsR.rising {r : List Sy} {ts : List Int} {l : List Nat} (h : HdsR S r ts l) : Rising l := by
  obtain ⟨s, rfl, _⟩ := h
  exact tls_rising s
theorem HdsR.max {r : List Sy} {ts : List Int} {l : List Nat} (h : HdsR S r ts l) : l.length ≤ 128 := by
  obtain ⟨s, rfl, _⟩ := h
  exact tls_len s
theorem Sml_of (hl : S.lx.length ≤ 64) {r : List Sy} (h : ∀ x ∈ r, syOk S x) : Sml S.nl (row r) := by
  refine ⟨by unfold Sp.nl; omega, fun n hn => ?_⟩
  obtain ⟨x, hx, he⟩ := List.mem_map.1 hn
  rcases sy_kinds (h x hx) with ⟨_, h1, h2, h3⟩ | ⟨_, _, h3⟩ | ⟨_, _, _, h3⟩
  · rw [h3] at he; cases he; omega
  · rw [h3] at he; cases he
  · rw [h3] at he; cases he
theorem HdsR.of {es : List Bool} {fs : List Se} (hes : IsD S.g false S.ns.length es) (hF : IsF S.g S.nl (hF fs)) (hok : ∀ s ∈ fs, Se.ok s) (hl : S.lx.length ≤ 64) {r : List Sy} (hr : ∀ x ∈ r, syOk S x) {ts : List Int} {n : Se} (hn : NxS ts n) :
    HdsR S r ts (tls (if (hdS S.nl fs es (row r)).2 = true then un (hdS S.nl fs es (row r)).1 n else (hdS S.nl fs es (row r)).1)) ∧ (if (hdS S.nl fs es (row r)).2 = true then un (hdS S.nl fs es (row r)).1 n else (hdS S.nl fs es (row r)).1).ok := by
  have h1 := hdS_ok (es := es) hok (Sml_of hl hr)
  have h2 : ∀ t, has (hdS S.nl fs es (row r)).1 t = true ↔ FiR S.g S.nl (row r) t := fun t => by
    rw [hdS_has, ← hF.hd]
    exact ⟨Hd_mono (fun _ _ h => h) (fun A h => (hes.iff A).1 h), Hd_mono (fun _ _ h => h) (fun A h => (hes.iff A).2 h)⟩
  have h3 : (hdS S.nl fs es (row r)).2 = true ↔ NuR S.g (row r) := by
    rw [hdS_em, ← Em_nu]
    exact Em_congr hes.iff
  have h4 : (if (hdS S.nl fs es (row r)).2 = true then un (hdS S.nl fs es (row r)).1 n else (hdS S.nl fs es (row r)).1).ok := by
    split
    · exact ok_un h1 hn.ok
    · exact h1
  refine ⟨⟨_, rfl, h4, fun t => ?_⟩, h4⟩
  split
  · rename_i h
    rw [has_un, Bool.or_eq_true, h2, hn.iff]
    exact or_congr Iff.rfl ⟨fun q => ⟨h3.1 h, q⟩, fun q => q.2⟩
  · rename_i h
    rw [h2]
    exact ⟨.inl, fun q => q.elim id fun q => absurd (h3.2 q.1) h⟩
end
end Go.Proofs.YtkkpghlcmcaoiaaDoor
