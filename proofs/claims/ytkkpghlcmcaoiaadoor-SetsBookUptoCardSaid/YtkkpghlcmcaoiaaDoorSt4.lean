import Derived.Test.YtkkpghlcmcaoiaaDoorS1
import Derived.Test.YtkkpghlcmcaoiaaDoorS2
import Derived.Test.YtkkpghlcmcaoiaaDoorSt
namespace Go.Proofs.YtkkpghlcmcaoiaaDoor
open Go.Vc Go.Gm
def fE : List Bool → List Nat → Nat → Int × Int
 | b :: l, v :: m, i => if b = true ∧ 256 < v then (6, i) else fE l m (i + 1)
 | _, _, _ => (0, 0)
theorem fE_step {bs : List Bool} {vs : List Nat} {i v : Nat} {b : Bool} (h : bs[i]? = some b) (hr : vs[i]? = some v) : fE (bs.drop i) (vs.drop i) i = if b = true ∧ 256 < v then (6, (i : Int)) else fE (bs.drop (i + 1)) (vs.drop (i + 1)) (i + 1) := by rw [drop_of h, drop_of hr]; rfl
theorem fE_ok : ∀ {bs : List Bool} {vs : List Nat} {i : Nat}, bs.length = vs.length → ((fE bs vs i).1 = 0 ↔ ∀ t v, vs[t]? = some v → on bs t → v ≤ 256)
 | [], [], _, _ => by simp [fE]
 | b :: l, r :: m, i, h => by
  have ih := fE_ok (bs := l) (vs := m) (i := i + 1) (by simpa using h)
  rw [fE]
  split
  ·rename_i h1
   constructor
   ·intro h; cases h
   ·intro h2
    have := h2 0 r rfl (by unfold on; rw [h1.1]; rfl)
    omega
  ·rename_i h1
   rw [ih]
   constructor
   ·intro h2 t q hq ht
    cases t with
    | zero =>
     simp only [List.getElem?_cons_zero, Option.some.injEq] at hq
     subst hq
     unfold on at ht
     simp only [List.getElem?_cons_zero, Option.some.injEq] at ht
     rcases Nat.lt_or_ge 256 r with h3 | h3
     ·exact absurd ⟨ht, h3⟩ h1
     ·exact h3
    | succ t => exact h2 t q (by simpa using hq) ht
   ·intro h2 t q hq ht
    exact h2 (t + 1) q (by simpa using hq) ht
 | [], _ :: _, _, h => by simp at h
 | _ :: _, [], _, h => by simp at h
theorem fE_zero : ∀ {bs : List Bool} {vs : List Nat} {i : Nat}, (fE bs vs i).1 = 0 → fE bs vs i = (0, 0)
 | [], [], _, _ => rfl
 | [], _ :: _, _, _ => rfl
 | _ :: _, [], _, _ => rfl
 | b :: l, r :: m, i, h => by
  rw [fE] at h ⊢
  split
  ·rename_i h1; rw [if_pos h1] at h; cases h
  ·rename_i h1; rw [if_neg h1] at h; exact fE_zero h
theorem vf_ext {top : Nat} {vs us : List Nat} (hl : vs.length = us.length) (h : ∀ A, vf top vs A = vf top us A) : vs = us := by
 refine List.ext_getElem? fun i => ?_
 have := h i
 unfold vf at this
 rcases Nat.lt_or_ge i vs.length with hi | hi
 ·rw [List.getElem?_eq_getElem hi, List.getElem?_eq_getElem (by omega)] at this ⊢
  simpa using this
 ·rw [List.getElem?_eq_none hi, List.getElem?_eq_none (by omega)]
inductive ChkR (S : Sp) : Int × Int → Prop
 | lng : Lng S → ChkR S (2, 0)
 | ix : ¬Lng S → (inE S).1 ≠ 0 → ChkR S (inE S)
 | rc {x : RcX} : ¬Lng S → Ix S → IsRc S x → (rcE S x).1 ≠ 0 → ChkR S (rcE S x)
 | up {x : RcX} {bs : List Bool} : ¬Lng S → Ix S → IsRc S x → (rcE S x).1 = 0 → IsD S.g true S.ns.length bs → 0 ≤ fF bs 0 → ChkR S (73, fF bs 0)
 | em {x : RcX} {bs es : List Bool} {vs : List Nat} : ¬Lng S → Ix S → IsRc S x → (rcE S x).1 = 0 → IsD S.g true S.ns.length bs → fF bs 0 < 0 → IsD S.g false S.ns.length es → vs.length = S.ns.length → IsC S.g 1 257 257 (vf 257 vs) → ChkR S (fE es vs 0)
theorem ChkR.same {S : Sp} {z z' : Int × Int} (h : ChkR S z) (h' : ChkR S z') : z = z' := by
 have hix : ∀ {p : Prop}, Ix S → (inE S).1 ≠ 0 → p := fun h1 h2 => absurd (inE_ok.2 h1) h2
 cases h with
 | lng h1 =>
  cases h' with
  | lng _ => rfl
  | ix g1 => exact absurd h1 g1
  | rc g1 => exact absurd h1 g1
  | up g1 => exact absurd h1 g1
  | em g1 => exact absurd h1 g1
 | ix h1 h2 =>
  cases h' with
  | lng g1 => exact absurd g1 h1
  | ix => rfl
  | rc _ g2 => exact hix g2 h2
  | up _ g2 => exact hix g2 h2
  | em _ g2 => exact hix g2 h2
 | rc h1 h2 h3 h4 =>
  cases h' with
  | lng g1 => exact absurd g1 h1
  | ix _ g2 => exact hix h2 g2
  | rc _ _ g3 => rw [h3.same g3]
  | up _ _ g3 g4 => rw [h3.same g3] at h4; exact absurd g4 h4
  | em _ _ g3 g4 => rw [h3.same g3] at h4; exact absurd g4 h4
 | up h1 h2 h3 h4 h5 h6 =>
  cases h' with
  | lng g1 => exact absurd g1 h1
  | ix _ g2 => exact hix h2 g2
  | rc _ _ g3 g4 => rw [h3.same g3] at h4; exact absurd h4 g4
  | up _ _ _ _ g5 => rw [h5.same g5 fun A => Iff.rfl]
  | em _ _ _ _ g5 g6 => rw [h5.same g5 fun A => Iff.rfl] at h6; omega
 | em h1 h2 h3 h4 h5 h6 h7 h8 h9 =>
  cases h' with
  | lng g1 => exact absurd g1 h1
  | ix _ g2 => exact hix h2 g2
  | rc _ _ g3 g4 => rw [h3.same g3] at h4; exact absurd h4 g4
  | up _ _ _ _ g5 g6 => rw [h5.same g5 fun A => Iff.rfl] at h6; omega
  | em _ _ _ _ _ _ g7 g8 g9 =>
   rw [h7.same g7 fun A => Iff.rfl, vf_ext (h8.trans g8.symm) (h9.same g9 fun A k => Iff.rfl)]
structure GOk (S : Sp) : Prop where
 lng : ¬Lng S
 ix : Ix S
 nm : ∀ A, A < S.ns.length → Rch S.g S.st.toNat (.m A)
 ru : ∀ t r, S.lx[t]? = some r → r.tr = false → Rch S.g S.st.toNat (.t t)
 pr : ∀ A, A < S.ns.length → Der S.g true A
 em : ∀ A, A < S.ns.length → Der S.g false A → ∃ k, k ≤ 256 ∧ CN S.g 1 257 A k
theorem all_on {bs : List Bool} {n : Nat} (hl : bs.length = n) : fF bs 0 < 0 ↔ ∀ A, A < n → on bs A := by
 rw [fF_neg]
 constructor
 ·intro h A hA
  unfold on
  rw [List.getElem?_eq_getElem (by omega)]
  rw [h _ (List.getElem_mem _)]
 ·intro h b hb
  obtain ⟨i, hi⟩ := List.getElem?_of_mem hb
  have := h i (by have := (List.getElem?_eq_some_iff.1 hi).1; omega)
  unfold on at this
  rw [hi] at this
  simpa using this
theorem IsRc.zero {S : Sp} {x : RcX} (h : IsRc S x) : (rcE S x).1 = 0 ↔ (∀ A, A < S.ns.length → Rch S.g S.st.toNat (.m A)) ∧ ∀ t r, S.lx[t]? = some r → r.tr = false → Rch S.g S.st.toNat (.t t) := by
 unfold rcE
 by_cases h1 : 0 ≤ fF x.1 0
 ·rw [if_pos h1]
  constructor
  ·intro h; cases h
  ·rintro ⟨h2, _⟩
   have := (all_on h.l1).2 fun A hA => (h.n A).2 (h2 A hA)
   omega
 ·rw [if_neg h1, fR_ok h.l2]
  have h2 := (all_on h.l1).1 (by omega)
  constructor
  ·intro h3
   exact ⟨fun A hA => (h.n A).1 (h2 A hA), fun t r ht hr => (h.r t).1 (h3 t r ht hr)⟩
  ·rintro ⟨_, h3⟩ t r ht hr
   exact (h.r t).2 (h3 t r ht hr)
theorem isD_all {G : Gr} {gd : Bool} {n : Nat} {bs : List Bool} (h : IsD G gd n bs) : fF bs 0 < 0 ↔ ∀ A, A < n → Der G gd A := by
 rw [all_on h.len]
 exact ⟨fun h1 A hA => (h.iff A).1 (h1 A hA), fun h1 A hA => (h.iff A).2 (h1 A hA)⟩
theorem em_ok {S : Sp} {es : List Bool} {vs : List Nat} (h7 : IsD S.g false S.ns.length es) (h8 : vs.length = S.ns.length) (h9 : IsC S.g 1 257 257 (vf 257 vs)) :
  (fE es vs 0).1 = 0 ↔ ∀ A, A < S.ns.length → Der S.g false A → ∃ k, k ≤ 256 ∧ CN S.g 1 257 A k := by
 rw [fE_ok (h7.len.trans h8.symm)]
 constructor
 ·intro h A hA hd
  obtain ⟨v, hv⟩ : ∃ v, vs[A]? = some v := ⟨_, List.getElem?_eq_getElem (by omega)⟩
  have h1 := h A v hv ((h7.iff A).2 hd)
  have h2 := h9.snd A (by rw [vf_at hv]; omega)
  rw [vf_at hv] at h2
  exact ⟨v, h1, h2⟩
 ·intro h t v hv ho
  have ht := (List.getElem?_eq_some_iff.1 hv).1
  obtain ⟨k, hk, hc⟩ := h t (by omega) ((h7.iff t).1 ho)
  have := h9.min hc
  rw [vf_at hv] at this
  omega
theorem ChkR.zero {S : Sp} {z : Int × Int} (h : ChkR S z) : (z.1 = 0 → z = (0, 0)) ∧ (z.1 = 0 ↔ GOk S) := by
 cases h with
 | lng h1 => exact ⟨fun h => (by cases h), fun h => (by cases h), fun h => absurd h1 h.lng⟩
 | ix h1 h2 => exact ⟨fun h => absurd h h2, fun h => absurd h h2, fun h => absurd (inE_ok.2 h.ix) h2⟩
 | rc h1 h2 h3 h4 => exact ⟨fun h => absurd h h4, fun h => absurd h h4, fun h => absurd (h3.zero.2 ⟨h.nm, h.ru⟩) h4⟩
 | up h1 h2 h3 h4 h5 h6 =>
  refine ⟨fun h => (by cases h), fun h => (by cases h), fun h => ?_⟩
  have := (isD_all h5).2 h.pr
  omega
 | em h1 h2 h3 h4 h5 h6 h7 h8 h9 =>
  refine ⟨fe, ?_, fun h => (em_ok h7 h8 h9).2 h.em⟩
  ·intro h
   exact ⟨h1, h2, (h3.zero.1 h4).1, (h3.zero.1 h4).2, (isD_all h5).1 h6, (em_ok h7 h8 h9).1 h⟩
where
 fe {es : List Bool} {vs : List Nat} (h : (fE es vs 0).1 = 0) : fE es vs 0 = (0, 0) := fE_zero h
end Go.Proofs.YtkkpghlcmcaoiaaDoor
