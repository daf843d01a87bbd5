/- Least sums: the plain law of their passes. No program. -/
import Derived.Test.YtkkpghlcmcaoiaaDoorSt2
namespace Go.Proofs.YtkkpghlcmcaoiaaDoor
open Go.Vc Go.Gm

def ivs (vs : List Nat) : List Value := vs.map fun (v : Nat) => I6 (v : Int)
theorem ivs_at {vs : List Nat} {j : Nat} {v : Nat} (h : vs[j]? = some v) : (ivs vs)[0 + j * 1]? = some (I6 (v : Int)) := by rw [Nat.zero_add, Nat.mul_one, ivs, List.getElem?_map, h]; rfl
theorem ivs_set (vs : List Nat) (j v : Nat) : (ivs vs).set (0 + j * 1) (I6 (v : Int)) = ivs (vs.set j v) := by rw [Nat.zero_add, Nat.mul_one, ivs, ivs, List.map_set]
theorem ivs_len (vs : List Nat) : (ivs vs).length = vs.length := by simp [ivs]
theorem ivs_rep (n v : Nat) : List.replicate n (I6 (v : Int)) = ivs (List.replicate n v) := by simp [ivs]
theorem fill_set {α : Type} {i n : Nat} (a b : α) (h : i < n) : (List.replicate i a ++ List.replicate (n - i) b).set i a = List.replicate (i + 1) a ++ List.replicate (n - (i + 1)) b := by
  refine List.ext_getElem? fun k => ?_
  rw [List.getElem?_set]
  simp only [List.getElem?_append, List.getElem?_replicate, List.length_append, List.length_replicate]
  by_cases h1 : i = k
  · subst h1
    rw [if_pos rfl, if_pos (by omega), if_pos (by omega), if_pos (by omega)]
  · rw [if_neg h1]
    repeat' split
    all_goals first | rfl | omega
def vf (top : Nat) (vs : List Nat) (A : Nat) : Nat := vs[A]?.getD top
theorem vf_at {top : Nat} {vs : List Nat} {A v : Nat} (h : vs[A]? = some v) : vf top vs A = v := by simp [vf, h]
theorem vf_set {top : Nat} {vs : List Nat} {A v : Nat} (h : A < vs.length) (B : Nat) : vf top (vs.set A v) B = if B = A then v else vf top vs B := by
  unfold vf
  rw [List.getElem?_set]
  by_cases h1 : A = B
  · subst h1; rw [if_pos rfl, if_pos h, if_pos rfl]; rfl
  · rw [if_neg h1, if_neg (Ne.symm h1)]
theorem sum_set_lt : ∀ {vs : List Nat} {A v w : Nat}, vs[A]? = some v → w < v → (vs.set A w).sum < vs.sum
  | [], A, v, w, h, _ => by simp at h
  | a :: vs, 0, v, w, h, hw => by
    simp only [List.getElem?_cons_zero, Option.some.injEq] at h
    subst h
    simp only [List.set_cons_zero, List.sum_cons]; omega
  | a :: vs, A + 1, v, w, h, hw => by
    have := sum_set_lt (vs := vs) (A := A) (v := v) (w := w) (by simpa using h) hw
    simp only [List.set_cons_succ, List.sum_cons]; omega
structure SmS (S : Sp) (add tc top : Nat) (vs : List Nat) : Prop where
  len : vs.length = S.ns.length
  le : ∀ A, vf top vs A ≤ top
  snd : ∀ A, vf top vs A < top → CN S.g add tc A (vf top vs A)
def SmC (S : Sp) (add tc top : Nat) (j : Nat) (vs : List Nat) : Prop := ∀ p, S.ps[j]? = some p → vf top vs p.l.toNat ≤ add + sumV tc (vf top vs) (row p.r)
abbrev SmP (S : Sp) (add tc top : Nat) := Stp (SmS S add tc top) (SmC S add tc top) List.sum
theorem CR_sum {G : Gr} {add tc top : Nat} {V : Nat → Nat} (h : ∀ A, V A < top → CN G add tc A (V A)) : ∀ {r : List Sm}, sumV tc V r < top → CR G add tc r (sumV tc V r)
  | [], _ => .nil
  | .t n :: r, hl => by
    simp only [sumV, val] at hl ⊢
    exact .term rfl (CR_sum h (by omega))
  | .e :: r, hl => by
    simp only [sumV, val] at hl ⊢
    exact .term rfl (CR_sum h (by omega))
  | .m A :: r, hl => by
    simp only [sumV, val] at hl ⊢
    obtain ⟨q, i, hm, hc, he⟩ := h A (by omega)
    have := CR_sum h (r := r) (by omega)
    rw [he]
    exact .name hm hc this
theorem SmS.set {S : Sp} {add tc top : Nat} {vs : List Nat} (h : SmS S add tc top vs) {p : Pd} (hp : p ∈ S.ps) (hl : p.l.toNat < S.ns.length) {m v : Nat} (hm : m = min top (add + sumV tc (vf top vs) (row p.r))) (hv : vs[p.l.toNat]? = some v) (hlt : m < v) : SmS S add tc top (vs.set p.l.toNat m) := by
  have h1 := h.le p.l.toNat
  rw [vf_at hv] at h1
  have hlen := h.len
  refine ⟨by rw [List.length_set]; exact h.len, fun A => ?_, fun A hA => ?_⟩
  · rw [vf_set (by omega)]
    split
    · omega
    · exact h.le A
  · rw [vf_set (by omega)] at hA ⊢
    split
    · rename_i h2
      subst h2
      have : m = add + sumV tc (vf top vs) (row p.r) := by omega
      exact ⟨_, _, g_mem hp, CR_sum h.snd (by omega), this⟩
    · rename_i h2
      rw [if_neg h2] at hA
      exact h.snd A hA
theorem SmC.of {S : Sp} {add tc top : Nat} {vs : List Nat} {i : Nat} {p : Pd} (hi : S.ps[i]? = some p) {m v : Nat} (hm : m = min top (add + sumV tc (vf top vs) (row p.r))) (hv : vs[p.l.toNat]? = some v) (h : ¬m < v) : SmC S add tc top i vs := fun q hq => by
  rw [hi] at hq; cases hq
  rw [vf_at hv]; omega
theorem SmP.isC {S : Sp} {add tc top : Nat} {vs : List Nat} (h : SmS S add tc top vs) (hc : ∀ j, j < S.ps.length → SmC S add tc top j vs) : IsC S.g add tc top (vf top vs) :=
  ⟨h.le, h.snd, fun A r hm => by
    obtain ⟨j, p, hj, hp, h1, h2⟩ := g_idx hm
    have := hc j hj p hp
    rw [h1, h2] at this; exact this⟩
theorem SmS.start (S : Sp) (add tc top : Nat) : SmS S add tc top (List.replicate S.ns.length top) := by
  have : ∀ A, vf top (List.replicate S.ns.length top) A = top := fun A => by
    unfold vf
    rw [List.getElem?_replicate]
    split <;> rfl
  exact ⟨by simp, fun A => by rw [this]; exact Nat.le_refl _, fun A hA => by rw [this] at hA; omega⟩
theorem sumV_m {tc top : Nat} {vs : List Nat} {r : List Sy} {k : Nat} {x : Sy} (h : r[k]? = some x) {v : Nat} (h3 : x.1 = 3) (hv : vs[x.2.toNat]? = some v) : sumV tc (vf top vs) ((row r).drop k) = v + sumV tc (vf top vs) ((row r).drop (k + 1)) := by
  rw [row_at h, sumV, sm_name h3, val, vf_at hv]
theorem sumV_o {tc top : Nat} {vs : List Nat} {r : List Sy} {k : Nat} {x : Sy} (h : r[k]? = some x) (h3 : x.1 ≠ 3) : sumV tc (vf top vs) ((row r).drop k) = tc + sumV tc (vf top vs) ((row r).drop (k + 1)) := by
  rw [row_at h, sumV]
  congr 1
  unfold sm
  rw [if_neg h3]
  split <;> rfl
theorem min_case (m v top : Nat) {v' t : Int} (hv : v' = (v : Int)) (ht : t = (top : Int)) : ∃ m2 : Nat, ((m2 = m + v ∧ m + v ≤ top) ∨ (m2 = top ∧ top < m + v)) ∧ Value.int .i64 (if t < (m : Int) + v' then t else (m : Int) + v') = I6 (m2 : Int) := by
  subst hv ht
  rcases Nat.lt_or_ge top (m + v) with h | h
  · exact ⟨top, .inr ⟨rfl, h⟩, by rw [if_pos (by omega)]⟩
  · exact ⟨m + v, .inl ⟨rfl, h⟩, by rw [if_neg (by omega)]; rfl⟩
/-- the sum so far, held at the top: r is what remains, s the whole -/
def Cap (top m r s : Nat) : Prop := m ≤ top ∧ ((m = top ∧ top ≤ s) ∨ m + r = s)
theorem Cap.start {top a r : Nat} (h : a ≤ top) : Cap top a r (a + r) := ⟨h, .inr rfl⟩
theorem Cap.step {top m r s v m2 q : Nat} (h : Cap top m q s) (hq : q = v + r) (h2 : (m2 = m + v ∧ m + v ≤ top) ∨ (m2 = top ∧ top < m + v)) : Cap top m2 r s := by
  unfold Cap at *
  omega
theorem Cap.done {top m s : Nat} (h : Cap top m 0 s) : m = min top s := by
  unfold Cap at h
  omega
end Go.Proofs.YtkkpghlcmcaoiaaDoor
