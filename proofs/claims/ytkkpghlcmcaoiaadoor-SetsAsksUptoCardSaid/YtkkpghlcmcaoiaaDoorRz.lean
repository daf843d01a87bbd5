import Derived.Test.YtkkpghlcmcaoiaaDoorRo
import Derived.Test.YtkkpghlcmcaoiaaDoorS17
namespace Go.Proofs.YtkkpghlcmcaoiaaDoor
open Go.Vc Go.Gm
abbrev RzX := List (List Nat) × List Bool
structure RzS (S : Sp) (mx : Nat) (x : RzX) : Prop where
 l1 : x.1.length = S.ns.length
 l2 : x.2.length = S.ns.length
 snd : ∀ A, on x.2 A → MN S.g S.nl A (rF x.1 A) ∧ (rF x.1 A).length ≤ mx ∧ ∀ t ∈ rF x.1 A, t ≤ S.nl
 off : ∀ A, ¬on x.2 A → rF x.1 A = []
def RzC (S : Sp) (mx : Nat) (j : Nat) (x : RzX) : Prop := ∀ p, S.ps[j]? = some p → (∀ B, Sm.m B ∈ row p.r → on x.2 B) → (mkR S.nl (rF x.1) (row p.r)).length ≤ mx → on x.2 p.l.toNat ∧ leq (rF x.1 p.l.toNat) (mkR S.nl (rF x.1) (row p.r))
def rzW (S : Sp) (mx : Nat) (x : RzX) (A : Nat) : Nat := if on x.2 A then num (S.nl + 2) (rF x.1 A) else (S.nl + 2) ^ mx
def rzMu (S : Sp) (mx : Nat) (x : RzX) : Nat := ((List.range x.1.length).map (rzW S mx x)).sum
abbrev RzP (S : Sp) (mx : Nat) := Stp (RzS S mx) (RzC S mx) (rzMu S mx)
theorem num_ge {K : Nat} : ∀ {u : List Nat}, u ≠ [] → K ^ (u.length - 1) ≤ num K u
 | [], h => absurd rfl h
 | x :: u, _ => by
  rw [num, List.length_cons, Nat.add_sub_cancel]
  have : 1 * K ^ u.length ≤ (x + 1) * K ^ u.length := Nat.mul_le_mul_right _ (by omega)
  omega
theorem num_less {K : Nat} {u v : List Nat} (hK : 0 < K) (hu : ∀ x ∈ u, x + 1 < K) (h : less u v) : num K u < num K v := by
 rcases h with h | ⟨h1, h2⟩
 ·have h1 := num_lt hu
  have h2 := num_ge (K := K) (u := v) (fun h' => by rw [h'] at h; simp at h)
  have h3 : K ^ u.length ≤ K ^ (v.length - 1) := Nat.pow_le_pow_right hK (by omega)
  omega
 ·exact num_lex h1 hu h2
section
variable {S : Sp} {mx : Nat} {x : RzX} {p : Pd} {i : Nat} {u : List Nat}
theorem rzMu_set {A : Nat} (hA : A < x.1.length) (hA2 : A < x.2.length) (hl : u.length ≤ mx) (hx : ∀ t ∈ u, t ≤ S.nl) (h : ¬on x.2 A ∨ less u (rF x.1 A)) : rzMu S mx (x.1.set A u, x.2.set A true) < rzMu S mx x := by
 unfold rzMu
 rw [List.length_set]
 refine sum_lt (A := A) (fun B hB => ?_) ?_ hA
 ·unfold rzW
  simp only [rF_set u hA, on_set hA2, hB, false_or, if_false]
 ·unfold rzW
  rw [if_pos ((on_set hA2).2 (.inl rfl)), rF_set u hA, if_pos rfl]
  have hu : ∀ t ∈ u, t + 1 < S.nl + 2 := fun t ht => by have := hx t ht; omega
  split
  ·rename_i h1
   rcases h with h | h
   ·exact absurd h1 h
   ·exact num_less (by omega) hu h
  ·exact Nat.lt_of_lt_of_le (num_lt hu) (Nat.pow_le_pow_right (by omega) hl)
theorem MT_rz (h : RzS S mx x) : ∀ {r : List Sm}, (∀ B, Sm.m B ∈ r → on x.2 B) → MT S.g S.nl r (mkR S.nl (rF x.1) r)
 | [], _ => .nil
 | .t n :: r, hr => .t (MT_rz h fun B hB => hr B (by simp [hB]))
 | .e :: r, hr => .e (MT_rz h fun B hB => hr B (by simp [hB]))
 | .m A :: r, hr => by
  obtain ⟨q, hm, hq⟩ := (h.snd A (hr A (by simp))).1
  exact .m hm hq (MT_rz h fun B hB => hr B (by simp [hB]))
theorem rz_le (h : RzS S mx x) : ∀ {r : List Sm}, (∀ n, Sm.t n ∈ r → n ≤ S.nl) → (∀ B, Sm.m B ∈ r → on x.2 B) → ∀ t ∈ mkR S.nl (rF x.1) r, t ≤ S.nl
 | [], _, _, t, ht => by simp [mkR] at ht
 | .t n :: r, hr, hb, t, ht => by
  rcases List.mem_cons.1 ht with rfl | ht
  ·exact hr _ (by simp)
  ·exact rz_le h (fun n hn => hr n (by simp [hn])) (fun B hB => hb B (by simp [hB])) t ht
 | .e :: r, hr, hb, t, ht => by
  rcases List.mem_cons.1 ht with rfl | ht
  ·exact Nat.le_refl _
  ·exact rz_le h (fun n hn => hr n (by simp [hn])) (fun B hB => hb B (by simp [hB])) t ht
 | .m A :: r, hr, hb, t, ht => by
  rcases List.mem_append.1 ht with ht | ht
  ·exact (h.snd A (hb A (by simp))).2.2 t ht
  ·exact rz_le h (fun n hn => hr n (by simp [hn])) (fun B hB => hb B (by simp [hB])) t ht
theorem row_small (hI : Ix S) (hp : p ∈ S.ps) : ∀ n, Sm.t n ∈ row p.r → n ≤ S.nl := fun n hn => by
 obtain ⟨x, hx, h2, h3⟩ := row_t hn
 rcases hI.right p hp x hx with ⟨_, h4, h5, _⟩ | ⟨h4, _⟩ | ⟨h4, _⟩
 ·unfold Sp.nl; omega
 ·omega
 ·omega
theorem RzS.set (hI : Ix S) (h : RzS S mx x) (hp : p ∈ S.ps) (hr : ∀ B, Sm.m B ∈ row p.r → on x.2 B) (hu : u = mkR S.nl (rF x.1) (row p.r)) (hl : u.length ≤ mx) : RzS S mx (x.1.set p.l.toNat u, x.2.set p.l.toNat true) := by
 have hpl := hI.pl hp
 have h1 := h.l1
 have h2 := h.l2
 have e1 : p.l.toNat < x.1.length := by omega
 have e2 : p.l.toNat < x.2.length := by omega
 refine ⟨by rw [List.length_set]; exact h1, by rw [List.length_set]; exact h2, fun A hA => ?_, fun A hA => ?_⟩
 ·simp only [on_set e2, rF_set u e1] at hA ⊢
  by_cases h3 : A = p.l.toNat
  ·rw [if_pos h3]
   subst h3
   rw [hu] at hl ⊢
   exact ⟨⟨_, g_mem hp, MT_rz h hr⟩, hl, rz_le h (row_small hI hp) hr⟩
  ·rw [if_neg h3]
   exact h.snd A (hA.resolve_left h3)
 ·simp only [on_set e2, rF_set u e1] at hA ⊢
  by_cases h3 : A = p.l.toNat
  ·exact absurd (.inl h3) hA
  ·rw [if_neg h3]
   exact h.off A fun q => hA (.inr q)
theorem RzC.of (hi : S.ps[i]? = some p) (h : ¬(∀ B, Sm.m B ∈ row p.r → on x.2 B) ∨ ¬(mkR S.nl (rF x.1) (row p.r)).length ≤ mx ∨ (on x.2 p.l.toNat ∧ ¬less (mkR S.nl (rF x.1) (row p.r)) (rF x.1 p.l.toNat))) : RzC S mx i x := fun q hq h1 h2 => by
 rw [hi] at hq; cases hq
 rcases h with h | h | h
 ·exact absurd h1 h
 ·exact absurd h2 h
 ·exact h
def rzO (x : RzX) (A : Nat) : Option (List Nat) := if on x.2 A then some (rF x.1 A) else none
theorem rzO_some {A : Nat} {u : List Nat} : rzO x A = some u ↔ on x.2 A ∧ rF x.1 A = u := by
 unfold rzO
 split
 ·rename_i h; simp [h]
 ·rename_i h; simp [h]
theorem rzO_get (h : RzS S mx x) : (fun B => (rzO x B).getD []) = rF x.1 := funext fun B => by
 unfold rzO
 split
 ·rfl
 ·rename_i h1; rw [h.off B h1]; rfl
theorem RzS.isZ (h : RzS S mx x) (hc : ∀ j, j < S.ps.length → RzC S mx j x) : IsZ S.g S.nl mx (rzO x) := by
 refine ⟨fun A u hu => ?_, fun A r hm h1 h2 => ?_⟩
 ·obtain ⟨h1, rfl⟩ := rzO_some.1 hu
  exact ⟨(h.snd A h1).1, (h.snd A h1).2.1⟩
 ·rw [rzO_get h] at h2 ⊢
  obtain ⟨j, p, hj, hp, e1, e2⟩ := g_idx hm
  have := hc j hj p hp
  rw [e1, e2] at this
  obtain ⟨h3, h4⟩ := this (fun B hB => by
   have := h1 B hB
   unfold rzO at this
   split at this
   ·assumption
   ·cases this) h2
  exact ⟨_, rzO_some.2 ⟨h3, rfl⟩, h4⟩
theorem RzS.start : RzS S mx (List.replicate S.ns.length [], List.replicate S.ns.length false) := by
 have e : ∀ A, rF (List.replicate S.ns.length []) A = [] := fun A => by
  unfold rF
  rw [List.getElem?_replicate]
  split <;> rfl
 refine ⟨by simp, by simp, fun A hA => ?_, fun A _ => e A⟩
 simp only [on, List.getElem?_replicate] at hA
 split at hA <;> simp at hA
end
def fH : List Bool → Nat → Int × Int
 | [], _ => (0, 0)
 | b :: l, i => if b then fH l (i + 1) else (6, i)
theorem fH_step {bs : List Bool} {i : Nat} {b : Bool} (h : bs[i]? = some b) : fH (bs.drop i) i = if b then fH (bs.drop (i + 1)) (i + 1) else (6, (i : Int)) := by rw [drop_of h]; rfl
theorem fH_fY : ∀ {bs : List Bool} {vs : List Nat} {i : Nat}, bs.length = vs.length → (∀ (j : Nat) (v : Nat), vs[j]? = some v → (on bs j ↔ v ≤ 4096)) → fH bs i = fY vs i
 | [], [], _, _, _ => rfl
 | [], _ :: _, _, h, _ => by simp at h
 | _ :: _, [], _, h, _ => by simp at h
 | b :: bs, v :: vs, i, h, hv => by
  have ih := fH_fY (bs := bs) (vs := vs) (i := i + 1) (by simpa using h) fun j w hw => hv (j + 1) w (by simpa using hw)
  have h0 := hv 0 v (by simp)
  unfold on at h0
  simp only [List.getElem?_cons_zero, Option.some.injEq] at h0
  rw [fH, fY, ih]
  by_cases h1 : v ≤ 4096
  ·rw [if_pos (h0.2 h1), if_neg (by omega)]
  ·rw [if_neg (fun q => h1 (h0.1 q)), if_pos (by omega)]
structure ZldR (S : Sp) (x : RzX) : Prop where
 s : RzS S 4096 x
 z : IsZ S.g S.nl 4096 (rzO x)
theorem ZldR.fault {S : Sp} {x : RzX} {vs : List Nat} (h : ZldR S x) (hl : LenR S vs) : fH x.2 0 = fY vs 0 := by
 refine fH_fY (by rw [h.s.l2, hl.len]) fun j v hv => ?_
 have e := vf_at (top := 4097) hv
 constructor
 ·intro ho
  obtain ⟨h1, h2, _⟩ := h.s.snd j ho
  have := hl.c.min ((CN_MN (nl := S.nl)).2 ⟨_, h1, rfl⟩)
  rw [e] at this
  omega
 ·intro h1
  have := hl.c.snd j (by rw [e]; omega)
  obtain ⟨u, h2, h3⟩ := (CN_MN (nl := S.nl)).1 this
  rw [e] at h3
  have := h.z.some_of h2 (by omega)
  unfold rzO at this
  split at this
  ·assumption
  ·cases this
theorem fH_on : ∀ {bs : List Bool} {i : Nat}, (fH bs i).1 = 0 → ∀ j, j < bs.length → on bs j
 | [], _, _, j, hj => by simp at hj
 | b :: bs, i, h, j, hj => by
  rw [fH] at h
  cases b with
  | false => simp at h
  | true =>
   cases j with
   | zero => rfl
   | succ j => exact fH_on (bs := bs) (i := i + 1) (by simpa using h) j (by simpa using hj)
theorem fH_zero : ∀ {bs : List Bool} {i : Nat}, (fH bs i).1 = 0 → fH bs i = (0, 0)
 | [], _, _ => rfl
 | b :: bs, i, h => by
  rw [fH] at h ⊢
  cases b with
  | false => simp at h
  | true => simp at h ⊢; exact fH_zero h
theorem fH_six : ∀ {bs : List Bool} {i : Nat}, (fH bs i).1 ≠ 0 → (fH bs i).1 = 6
 | [], _, h => absurd rfl h
 | b :: bs, i, h => by
  rw [fH] at h ⊢
  cases b with
  | false => rfl
  | true => simp at h ⊢; exact fH_six h
theorem ZldR.rows {S : Sp} {x : RzX} {ls : List (List Nat)} (h : ZldR S x) (h0 : (fH x.2 0).1 = 0) (hY : YldR S ls) : ls = x.1 := by
 have l0 := hY.1
 have l1 := h.s.l1
 have l2 := h.s.l2
 refine List.ext_getElem? fun i => ?_
 rcases Nat.lt_or_ge i ls.length with hi | hi
 ·obtain ⟨u, hu⟩ : ∃ u, ls[i]? = some u := ⟨_, List.getElem?_eq_getElem hi⟩
  obtain ⟨v, hv⟩ : ∃ v, x.1[i]? = some v := ⟨_, List.getElem?_eq_getElem (by omega)⟩
  rw [hu, hv, (hY.2 i u hu).same (h.z.least (rzO_some.2 ⟨fH_on h0 i (by omega), rF_at hv⟩)) fun _ => Iff.rfl]
 ·rw [List.getElem?_eq_none hi, List.getElem?_eq_none (by omega)]
end Go.Proofs.YtkkpghlcmcaoiaaDoor
