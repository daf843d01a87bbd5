/- The least rows: the plain law of the program's passes. No program. -/
import Derived.Test.YtkkpghlcmcaoiaaDoorSt7
namespace Go.Proofs.YtkkpghlcmcaoiaaDoor
open Go.Vc Go.Gm

def rF (R : List (List Nat)) (A : Nat) : List Nat := R[A]?.getD []
theorem rF_at {R : List (List Nat)} {A : Nat} {u : List Nat} (h : R[A]? = some u) : rF R A = u := by simp [rF, h]
theorem rF_set {R : List (List Nat)} {A : Nat} (u : List Nat) (h : A < R.length) (B : Nat) : rF (R.set A u) B = if B = A then u else rF R B := by
  unfold rF
  rw [List.getElem?_set]
  by_cases h1 : A = B
  · subst h1; rw [if_pos rfl, if_pos h, if_pos rfl]; rfl
  · rw [if_neg h1, if_neg (Ne.symm h1)]
/-! ### a row as a number -/
def num (K : Nat) : List Nat → Nat
  | [] => 0
  | x :: u => (x + 1) * K ^ u.length + num K u
theorem num_lt {K : Nat} : ∀ {u : List Nat}, (∀ x ∈ u, x + 1 < K) → num K u < K ^ u.length
  | [], _ => by simp [num]
  | x :: u, h => by
    have ih := num_lt (K := K) (u := u) fun y hy => h y (by simp [hy])
    have hx := h x (by simp)
    rw [num, List.length_cons, Nat.pow_succ]
    have h1 : (x + 1 + 1) * K ^ u.length ≤ K * K ^ u.length := Nat.mul_le_mul_right _ (by omega)
    have h2 : (x + 1 + 1) * K ^ u.length = (x + 1) * K ^ u.length + K ^ u.length := by rw [Nat.add_mul, Nat.one_mul]
    rw [Nat.mul_comm (K ^ u.length) K]
    omega
theorem num_lex {K : Nat} : ∀ {u v : List Nat}, u.length = v.length → (∀ x ∈ u, x + 1 < K) → lex u v → num K u < num K v
  | [], [], _, _, h => h.elim
  | [], _ :: _, h, _, _ => by simp at h
  | _ :: _, [], h, _, _ => by simp at h
  | x :: u, y :: v, hl, hu, h => by
    have hl' : u.length = v.length := by simpa using hl
    rw [num, num]
    rcases h with h | ⟨rfl, h⟩
    · have h1 := num_lt (K := K) (u := u) fun z hz => hu z (by simp [hz])
      have h2 : (x + 1 + 1) * K ^ v.length ≤ (y + 1) * K ^ v.length := Nat.mul_le_mul_right _ (by omega)
      have h3 : (x + 1 + 1) * K ^ v.length = (x + 1) * K ^ v.length + K ^ v.length := by rw [Nat.add_mul, Nat.one_mul]
      rw [hl'] at h1 ⊢
      omega
    · have := num_lex hl' (fun z hz => hu z (by simp [hz])) h
      rw [hl']
      omega
/-! ### the passes -/
structure YsS (S : Sp) (V : Nat → Nat) (R : List (List Nat)) : Prop where
  len : R.length = S.ns.length
  snd : ∀ A, rF R A ≠ [] → MN S.g S.nl A (rF R A) ∧ (rF R A).length = V A ∧ ∀ x ∈ rF R A, x ≤ S.nl
def YsC (S : Sp) (V : Nat → Nat) (j : Nat) (R : List (List Nat)) : Prop := ∀ p, S.ps[j]? = some p → (∀ B, Sm.m B ∈ row p.r → V B > 0 → rF R B ≠ []) → (mkR S.nl (rF R) (row p.r)).length = V p.l.toNat → mkR S.nl (rF R) (row p.r) ≠ [] →
  rF R p.l.toNat ≠ [] ∧ leq (rF R p.l.toNat) (mkR S.nl (rF R) (row p.r))
def ysW (S : Sp) (V : Nat → Nat) (R : List (List Nat)) (A : Nat) : Nat := if rF R A = [] then (S.nl + 2) ^ V A else num (S.nl + 2) (rF R A)
def ysMu (S : Sp) (V : Nat → Nat) (R : List (List Nat)) : Nat := ((List.range R.length).map (ysW S V R)).sum
abbrev YsP (S : Sp) (V : Nat → Nat) := Stp (YsS S V) (YsC S V) (ysMu S V)
theorem sum_lt {f g : Nat → Nat} {A : Nat} (hf : ∀ B, B ≠ A → f B = g B) (hA : f A < g A) : ∀ {n : Nat}, A < n → ((List.range n).map f).sum < ((List.range n).map g).sum
  | 0, h => by omega
  | n + 1, h => by
    rw [List.range_succ, List.map_append, List.map_append, List.sum_append, List.sum_append]
    simp only [List.map_cons, List.map_nil, List.sum_cons, List.sum_nil, Nat.add_zero]
    rcases Nat.lt_succ_iff_lt_or_eq.1 h with h1 | h1
    · have := sum_lt hf hA h1
      rw [hf n (by omega)]
      omega
    · subst h1
      have e : (List.range A).map f = (List.range A).map g := List.map_congr_left fun B hB => hf B (by have := List.mem_range.1 hB; omega)
      rw [e]; omega
theorem ysMu_set {S : Sp} {V : Nat → Nat} {R : List (List Nat)} {A : Nat} {u : List Nat} (hA : A < R.length) (hu : u ≠ []) (hl : u.length = V A) (hx : ∀ x ∈ u, x ≤ S.nl) (h : rF R A = [] ∨ ((rF R A).length = V A ∧ lex u (rF R A))) : ysMu S V (R.set A u) < ysMu S V R := by
  unfold ysMu
  rw [List.length_set]
  refine sum_lt (A := A) (fun B hB => ?_) ?_ hA
  · unfold ysW
    rw [rF_set u hA, if_neg hB]
  · unfold ysW
    rw [rF_set u hA, if_pos rfl, if_neg hu]
    have h1 := num_lt (K := S.nl + 2) (u := u) fun x hx' => by have := hx x hx'; omega
    rcases h with h | ⟨h2, h3⟩
    · rw [if_pos h, ← hl]; exact h1
    · split
      · rename_i h4; rw [h4] at h2; simp at h2
        have : u.length = 0 := by omega
        exact absurd (List.eq_nil_of_length_eq_zero this) hu
      · exact num_lex (hl.trans h2.symm) (fun x hx' => by have := hx x hx'; omega) h3
theorem MT_mkR {S : Sp} {V : Nat → Nat} {R : List (List Nat)} (hV : ∀ B, V B = 0 → MN S.g S.nl B []) (h : YsS S V R) : ∀ {r : List Sm}, (∀ B, Sm.m B ∈ r → V B > 0 → rF R B ≠ []) → MT S.g S.nl r (mkR S.nl (rF R) r)
  | [], _ => .nil
  | .t n :: r, hr => .t (MT_mkR hV h fun B hB => hr B (by simp [hB]))
  | .e :: r, hr => .e (MT_mkR hV h fun B hB => hr B (by simp [hB]))
  | .m A :: r, hr => by
    have ih := MT_mkR hV h (r := r) fun B hB => hr B (by simp [hB])
    have hA : MN S.g S.nl A (rF R A) := by
      by_cases h1 : rF R A = []
      · rcases Nat.eq_zero_or_pos (V A) with h2 | h2
        · rw [h1]; exact hV A h2
        · exact absurd h1 (hr A (by simp) h2)
      · exact (h.snd A h1).1
    obtain ⟨q, hm, hq⟩ := hA
    exact .m hm hq ih
theorem mkR_le {S : Sp} {V : Nat → Nat} {R : List (List Nat)} (h : YsS S V R) : ∀ {r : List Sm}, (∀ n, Sm.t n ∈ r → n ≤ S.nl) → ∀ x ∈ mkR S.nl (rF R) r, x ≤ S.nl
  | [], _, x, hx => by simp [mkR] at hx
  | .t n :: r, hr, x, hx => by
    rcases List.mem_cons.1 hx with rfl | hx
    · exact hr _ (by simp)
    · exact mkR_le h (fun n hn => hr n (by simp [hn])) x hx
  | .e :: r, hr, x, hx => by
    rcases List.mem_cons.1 hx with rfl | hx
    · exact Nat.le_refl _
    · exact mkR_le h (fun n hn => hr n (by simp [hn])) x hx
  | .m A :: r, hr, x, hx => by
    rcases List.mem_append.1 hx with hx | hx
    · exact (h.snd A (fun h1 => by rw [h1] at hx; cases hx)).2.2 x hx
    · exact mkR_le h (fun n hn => hr n (by simp [hn])) x hx
theorem YsS.set {S : Sp} {V : Nat → Nat} {R : List (List Nat)} (hI : Ix S) (hV : ∀ B, V B = 0 → MN S.g S.nl B []) (h : YsS S V R) {p : Pd} (hp : p ∈ S.ps) {u : List Nat} (hu : u = mkR S.nl (rF R) (row p.r)) (hr : ∀ B, Sm.m B ∈ row p.r → V B > 0 → rF R B ≠ []) (hl : u.length = V p.l.toNat) : YsS S V (R.set p.l.toNat u) := by
  have hpl := hI.pl hp
  have hlen := h.len
  refine ⟨by rw [List.length_set]; exact h.len, fun A hA => ?_⟩
  rw [rF_set u (by omega)] at hA ⊢
  by_cases h1 : A = p.l.toNat
  · rw [if_pos h1]
    subst h1
    refine ⟨⟨_, g_mem hp, hu ▸ MT_mkR hV h hr⟩, hl, ?_⟩
    rw [hu]
    refine mkR_le h fun n hn => ?_
    obtain ⟨x, hx, h2, h3⟩ := row_t hn
    rcases hI.right p hp x hx with ⟨_, h4, h5, _⟩ | ⟨h4, _⟩ | ⟨h4, _⟩
    · unfold Sp.nl; omega
    · omega
    · omega
  · rw [if_neg h1] at hA ⊢
    exact h.snd A hA
theorem YsC.of {S : Sp} {V : Nat → Nat} {R : List (List Nat)} {i : Nat} {p : Pd} (hi : S.ps[i]? = some p) (h : ¬((∀ B, Sm.m B ∈ row p.r → V B > 0 → rF R B ≠ []) ∧ (mkR S.nl (rF R) (row p.r)).length = V p.l.toNat ∧ mkR S.nl (rF R) (row p.r) ≠ []) ∨ (rF R p.l.toNat ≠ [] ∧ leq (rF R p.l.toNat) (mkR S.nl (rF R) (row p.r)))) : YsC S V i R := fun q hq h1 h2 h3 => by
  rw [hi] at hq; cases hq
  rcases h with h | h
  · exact absurd ⟨h1, h2, h3⟩ h
  · exact h
theorem YsP.isY {S : Sp} {V : Nat → Nat} {R : List (List Nat)} (h : YsS S V R) (hc : ∀ j, j < S.ps.length → YsC S V j R) : IsY S.g S.nl V (rF R) :=
  ⟨fun A hA => ⟨(h.snd A hA).1, (h.snd A hA).2.1⟩, fun A r hm h1 h2 h3 => by
    obtain ⟨j, p, hj, hp, e1, e2⟩ := g_idx hm
    have := hc j hj p hp
    rw [e1, e2] at this
    exact this h1 h2 h3⟩
theorem YsS.start (S : Sp) (V : Nat → Nat) : YsS S V (List.replicate S.ns.length []) := by
  refine ⟨by simp, fun A hA => ?_⟩
  have : rF (List.replicate S.ns.length []) A = [] := by
    unfold rF
    rw [List.getElem?_replicate]
    split <;> rfl
  exact absurd this hA
theorem V0_nil {S : Sp} {top : Nat} {V : Nat → Nat} (h : IsC S.g 0 1 top V) (ht : 0 < top) (B : Nat) (hB : V B = 0) : MN S.g S.nl B [] := by
  have h1 := h.snd B (by omega)
  rw [hB] at h1
  obtain ⟨u, hu, hl⟩ := (CN_MN (nl := S.nl)).1 h1
  rw [List.eq_nil_of_length_eq_zero hl] at hu
  exact hu
theorem lex_leq {u v : List Nat} (hl : u.length = v.length) (h : ¬lex u v) : leq v u := by
  rintro (h1 | ⟨_, h1⟩)
  · omega
  · exact h h1
/-- what Yields tells -/
def YldR (S : Sp) (ls : List (List Nat)) : Prop := ls.length = S.ns.length ∧ ∀ A u, ls[A]? = some u → Yd S.g S.nl A u
theorem mkR_app {nl : Nat} {R : Nat → List Nat} : ∀ (a b : List Sm), mkR nl R (a ++ b) = mkR nl R a ++ mkR nl R b
  | [], _ => rfl
  | .t n :: a, b => by simp [mkR, mkR_app a b]
  | .e :: a, b => by simp [mkR, mkR_app a b]
  | .m A :: a, b => by simp [mkR, mkR_app a b]
end Go.Proofs.YtkkpghlcmcaoiaaDoor
