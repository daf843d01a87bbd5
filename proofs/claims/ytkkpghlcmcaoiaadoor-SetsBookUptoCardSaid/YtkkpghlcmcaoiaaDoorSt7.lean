import Derived.Test.YtkkpghlcmcaoiaaDoorSt5
import Derived.Test.YtkkpghlcmcaoiaaDoorSt4
import Derived.Test.YtkkpghlcmcaoiaaDoorVw
namespace Go.Proofs.YtkkpghlcmcaoiaaDoor
open Go.Vc Go.Gm
def want (nl : Nat) (ff : List Se) (es : List Bool) (fs : List Se) (p : Pd) (k : Nat) : Se :=
 if (hdS nl ff es ((row p.r).drop (k + 1))).2 = true then un (hdS nl ff es ((row p.r).drop (k + 1))).1 (gF fs p.l.toNat) else (hdS nl ff es ((row p.r).drop (k + 1))).1
structure FoS (S : Sp) (fs : List Se) : Prop where
 len : fs.length = S.ns.length
 ok : ∀ s ∈ fs, Se.ok s
 snd : ∀ A t, hF fs A t → Fo S.g S.nl S.st.toNat A t
 st : hF fs S.st.toNat (S.nl + 1)
def FoD (S : Sp) (es : List Bool) (ff : List Se) (fs : List Se) (p : Pd) (k : Nat) : Prop := ∀ x, p.r[k]? = some x → x.1 = 3 → un (gF fs x.2.toNat) (want S.nl ff es fs p k) = gF fs x.2.toNat
def FoC (S : Sp) (es : List Bool) (ff : List Se) (j : Nat) (fs : List Se) : Prop := ∀ p, S.ps[j]? = some p → ∀ k, FoD S es ff fs p k
abbrev FoP (S : Sp) (es : List Bool) (ff : List Se) := Stp (FoS S) (FoC S es ff) muF
structure FoI (S : Sp) (es : List Bool) (ff : List Se) (i : Nat) (p : Pd) (k : Nat) (f0 fs : List Se) (gr : Bool) : Prop where
 h : FoP S es ff i f0 fs gr
 d : gr = false → ∀ j, j < k → FoD S es ff fs p j
section
variable {S : Sp} {es : List Bool} {ff : List Se} {i k : Nat} {p : Pd} {f0 fs f1 : List Se} {gr : Bool}
theorem FoI.start (h : FoP S es ff i f0 fs gr) : FoI S es ff i p 0 f0 fs gr := ⟨h, fun _ j hj => by omega⟩
theorem FoI.pass (h : FoI S es ff i p k f0 fs gr) (hd : FoD S es ff fs p k) : FoI S es ff i p (k + 1) f0 fs gr :=
 ⟨h.h, fun hg j hj => by
  rcases Nat.lt_succ_iff_lt_or_eq.1 hj with h1 | h1
  ·exact h.d hg j h1
  ·rw [h1]; exact hd⟩
theorem FoI.set (h : FoI S es ff i p k f0 fs gr) (hs : FoS S f1) (hm : muF f1 < muF fs) : FoI S es ff i p (k + 1) f0 f1 true := ⟨h.h.mark hs hm, fun h => (by cases h)⟩
theorem FoI.done (h : FoI S es ff i p p.r.length f0 fs gr) (hi : S.ps[i]? = some p) : FoP S es ff (i + 1) f0 fs gr :=
 h.h.skipI fun hg q hq j x hx => by
  rw [hi] at hq; cases hq
  exact h.d hg j (List.getElem?_eq_some_iff.1 hx).1 x hx
theorem want_ok (hf : ∀ s ∈ ff, Se.ok s) (hg : ∀ s ∈ fs, Se.ok s) (hsm : Sml S.nl (row p.r)) (k : Nat) : (want S.nl ff es fs p k).ok := by
 have h1 := hdS_ok (nl := S.nl) (es := es) hf (r := (row p.r).drop (k + 1)) ⟨hsm.1, fun n hn => hsm.2 n (List.mem_of_mem_drop hn)⟩
 have h2 : (gF fs p.l.toNat).ok := by
  unfold gF
  cases hx : fs[p.l.toNat]? with
  | none => exact ok_none
  | some s => exact hg s (List.mem_of_getElem? hx)
 unfold want
 split
 ·exact ok_un h1 h2
 ·exact h1
theorem row_cut {r : List Sy} {k : Nat} {x : Sy} (h : r[k]? = some x) : row r = (row r).take k ++ sm x :: (row r).drop (k + 1) := by
 rw [← row_at h, List.take_append_drop]
theorem FoS.set (hes : IsD S.g false S.ns.length es) (hff : IsF S.g S.nl (hF ff)) (hfo : ∀ s ∈ ff, Se.ok s) (h : FoS S fs) (hp : p ∈ S.ps) (hsm : Sml S.nl (row p.r)) {x : Sy} (hx : p.r[k]? = some x) (h3 : x.1 = 3) {s : Se} (hs : fs[x.2.toNat]? = some s) :
  FoS S (fs.set x.2.toNat (un s (want S.nl ff es fs p k))) := by
 have hl : x.2.toNat < fs.length := (List.getElem?_eq_some_iff.1 hs).1
 have hm : (p.l.toNat, (row p.r).take k ++ Sm.m x.2.toNat :: (row p.r).drop (k + 1)) ∈ S.g := by
  have := g_mem hp
  rw [row_cut hx, sm_name h3] at this
  exact this
 refine ⟨by rw [List.length_set]; exact h.len, fun y hy => ?_, fun A t hA => ?_, ?_⟩
 ·rcases List.mem_or_eq_of_mem_set hy with h1 | h1
  ·exact h.ok y h1
  ·rw [h1]; exact ok_un (h.ok s (List.mem_of_getElem? hs)) (want_ok hfo h.ok hsm k)
 ·unfold hF at hA
  rw [gF_set _ hl] at hA
  split at hA
  ·rename_i h1
   subst h1
   rw [has_un, Bool.or_eq_true] at hA
   rcases hA with h2 | h2
   ·exact h.snd _ _ (by unfold hF; rw [gF_at hs]; exact h2)
   ·have hd : ∀ t, has (hdS S.nl ff es ((row p.r).drop (k + 1))).1 t = true → Fo S.g S.nl S.st.toNat x.2.toNat t := fun t ht =>
     .head hm (FiR_of hff.snd (Hd_mono (F' := hF ff) (fun _ _ h => h) (fun A h => (hes.iff A).1 h) (hdS_has.1 ht)))
    unfold want at h2
    split at h2
    ·rename_i h4
     rw [has_un, Bool.or_eq_true] at h2
     rcases h2 with h2 | h2
     ·exact hd t h2
     ·refine .pass hm ?_ (h.snd _ _ h2)
      have := hdS_em.1 h4
      exact (Em_nu _).1 ((Em_congr fun A => hes.iff A).1 this)
    ·exact hd t h2
  ·exact h.snd A t hA
 ·have h0 := h.st
  unfold hF at h0 ⊢
  rw [gF_set _ hl]
  split
  ·rename_i h1
   rw [has_un, Bool.or_eq_true]
   rw [h1, gF_at hs] at h0
   exact .inl h0
  ·exact h0
theorem FoP.isO (hes : IsD S.g false S.ns.length es) (hff : IsF S.g S.nl (hF ff)) (h : FoS S fs) (hc : ∀ j, j < S.ps.length → FoC S es ff j fs) : IsO S.g S.nl S.st.toNat (hF fs) := by
 refine ⟨h.snd, h.st, fun A B a b hm t ht => ?_⟩
 obtain ⟨j, p, hj, hp, h1, h2⟩ := g_idx hm
 have hk : (row p.r)[a.length]? = some (.m B) := by rw [h2]; simp
 obtain ⟨x, hx⟩ : ∃ x, p.r[a.length]? = some x := ⟨_, List.getElem?_eq_getElem (by have := (List.getElem?_eq_some_iff.1 hk).1; rw [row_len] at this; exact this)⟩
 have hsx : sm x = .m B := by
  rw [row, List.getElem?_map, hx] at hk
  simpa using hk
 obtain ⟨h3, h4⟩ := sm_m hsx
 have hd : (row p.r).drop (a.length + 1) = b := by rw [h2]; simp
 have := hc j hj p hp a.length x hx h3
 rw [h4] at this
 unfold hF
 rw [← this, has_un, Bool.or_eq_true]
 right
 unfold want
 rw [hd]
 have hfi : FiR S.g S.nl b t → has (hdS S.nl ff es b).1 t = true := fun hf => by
  rw [hdS_has]
  exact Hd_mono (fun _ _ h => h) (fun A h => (hes.iff A).2 h) (Hd_of hff.cl hf)
 rcases ht with ht | ⟨hn, ht⟩
 ·split
  ·rw [has_un, hfi ht]; rfl
  ·exact hfi ht
 ·have he : (hdS S.nl ff es b).2 = true := hdS_em.2 ((Em_congr fun A => hes.iff A).2 ((Em_nu b).2 hn))
  rw [if_pos he, has_un, Bool.or_eq_true, h1]
  exact .inr ht
end
theorem FoS.start {S : Sp} (h : 0 ≤ S.st ∧ S.st < S.ns.length) (hlx : S.lx.length ≤ 64) : FoS S ((List.replicate S.ns.length (0, 0)).set S.st.toNat (sgl (S.nl + 1))) := by
 have hg : ∀ A, gF (List.replicate S.ns.length (0, 0)) A = (0, 0) := fun A => by
  unfold gF
  rw [List.getElem?_replicate]
  split <;> rfl
 have hl : S.st.toNat < (List.replicate S.ns.length ((0, 0) : Se)).length := by simp; omega
 refine ⟨by simp, fun s hs => ?_, fun A t hA => ?_, ?_⟩
 ·rcases List.mem_or_eq_of_mem_set hs with h1 | h1
  ·rw [(List.mem_replicate.1 h1).2]; exact ok_none
  ·rw [h1]; exact ok_sgl (by unfold Sp.nl; omega)
 ·unfold hF at hA
  rw [gF_set _ hl] at hA
  split at hA
  ·rename_i h1
   rw [has_sgl] at hA
   have : t = S.nl + 1 := by simpa using hA
   rw [h1, this]; exact .start
  ·rw [hg, has_none] at hA; cases hA
 ·unfold hF
  rw [gF_set _ hl, if_pos rfl, has_sgl]
  simp
def FolR (S : Sp) (ls : List (List Nat)) : Prop := ∃ fs : List Se, ls = fs.map tls ∧ fs.length = S.ns.length ∧ (∀ s ∈ fs, Se.ok s) ∧ IsO S.g S.nl S.st.toNat (hF fs)
theorem rcut {w : World} {rv : Value} {r : List Sy} (h : RdV w 2 rv r.length (ycells r)) {l : Nat} (hl : l ≤ r.length) : RdV w 2 (rsz 2 rv l r.length (capOf rv)) (r.drop l).length (ycells (r.drop l)) := by
 have h1 := h.cutZ hl (Nat.le_refl _) h.capZ
 have hy : ∀ r : List Sy, (ycells r).length = r.length * 2 := fun r => flat_len (k := 2) (fun _ => rfl) r
 have e : ((ycells r).drop (l * 2)).take ((r.length - l) * 2) = ycells (r.drop l) := by
  rw [List.take_of_length_le (by rw [List.length_drop, hy]; omega)]
  have key : ∀ (r : List Sy) (l : Nat), (ycells r).drop (l * 2) = ycells (r.drop l) := fun r => by
   induction r with
   | nil => intro l; simp [ycells]
   | cons x r ih =>
    intro l
    cases l with
    | zero => rfl
    | succ l =>
     rw [List.drop_succ_cons, ← ih l, Nat.add_mul, Nat.one_mul]
     rfl
  exact key r l
 rw [e] at h1
 rw [List.length_drop]; exact h1
end Go.Proofs.YtkkpghlcmcaoiaaDoor
namespace Go.Proofs.YtkkpghlcmcaoiaaDoor
open Go.Vc Go.Gm
def rF (R : List (List Nat)) (A : Nat) : List Nat := R[A]?.getD []
theorem rF_at {R : List (List Nat)} {A : Nat} {u : List Nat} (h : R[A]? = some u) : rF R A = u := by simp [rF, h]
theorem rF_set {R : List (List Nat)} {A : Nat} (u : List Nat) (h : A < R.length) (B : Nat) : rF (R.set A u) B = if B = A then u else rF R B := by
 unfold rF
 rw [List.getElem?_set]
 by_cases h1 : A = B
 ·subst h1; rw [if_pos rfl, if_pos h, if_pos rfl]; rfl
 ·rw [if_neg h1, if_neg (Ne.symm h1)]
/-! ### a row as a number -/
def num (K : Nat) : List Nat → Nat
 | [] => 0
 | x :: u => (x + 1) * K ^ u.length + num K u
theorem num_lt {K : Nat} : ∀ {u : List Nat}, (∀ x ∈ u, x + 1 < K) → num K u < K ^ u.length
 | [], _ => by simp [num]
 | x :: u, h => by
  have ih := num_lt (K := K) (u := u) fun y hy => h y (by simp [hy])
  have hx := h x (by simp)
  rw [num, List.length_cons, Nat.pow_succ]
  have h1 : (x + 1 + 1) * K ^ u.length ≤ K * K ^ u.length := Nat.mul_le_mul_right _ (by omega)
  have h2 : (x + 1 + 1) * K ^ u.length = (x + 1) * K ^ u.length + K ^ u.length := by rw [Nat.add_mul, Nat.one_mul]
  rw [Nat.mul_comm (K ^ u.length) K]
  omega
theorem num_lex {K : Nat} : ∀ {u v : List Nat}, u.length = v.length → (∀ x ∈ u, x + 1 < K) → lex u v → num K u < num K v
 | [], [], _, _, h => h.elim
 | [], _ :: _, h, _, _ => by simp at h
 | _ :: _, [], h, _, _ => by simp at h
 | x :: u, y :: v, hl, hu, h => by
  have hl' : u.length = v.length := by simpa using hl
  rw [num, num]
  rcases h with h | ⟨rfl, h⟩
  ·have h1 := num_lt (K := K) (u := u) fun z hz => hu z (by simp [hz])
   have h2 : (x + 1 + 1) * K ^ v.length ≤ (y + 1) * K ^ v.length := Nat.mul_le_mul_right _ (by omega)
   have h3 : (x + 1 + 1) * K ^ v.length = (x + 1) * K ^ v.length + K ^ v.length := by rw [Nat.add_mul, Nat.one_mul]
   rw [hl'] at h1 ⊢
   omega
  ·have := num_lex hl' (fun z hz => hu z (by simp [hz])) h
   rw [hl']
   omega
/-! ### the passes -/
structure YsS (S : Sp) (V : Nat → Nat) (R : List (List Nat)) : Prop where
 len : R.length = S.ns.length
 snd : ∀ A, rF R A ≠ [] → MN S.g S.nl A (rF R A) ∧ (rF R A).length = V A ∧ ∀ x ∈ rF R A, x ≤ S.nl
def YsC (S : Sp) (V : Nat → Nat) (j : Nat) (R : List (List Nat)) : Prop := ∀ p, S.ps[j]? = some p → (∀ B, Sm.m B ∈ row p.r → V B > 0 → rF R B ≠ []) → (mkR S.nl (rF R) (row p.r)).length = V p.l.toNat → mkR S.nl (rF R) (row p.r) ≠ [] →
 rF R p.l.toNat ≠ [] ∧ leq (rF R p.l.toNat) (mkR S.nl (rF R) (row p.r))
def ysW (S : Sp) (V : Nat → Nat) (R : List (List Nat)) (A : Nat) : Nat := if rF R A = [] then (S.nl + 2) ^ V A else num (S.nl + 2) (rF R A)
def ysMu (S : Sp) (V : Nat → Nat) (R : List (List Nat)) : Nat := ((List.range R.length).map (ysW S V R)).sum
abbrev YsP (S : Sp) (V : Nat → Nat) := Stp (YsS S V) (YsC S V) (ysMu S V)
theorem sum_lt {f g : Nat → Nat} {A : Nat} (hf : ∀ B, B ≠ A → f B = g B) (hA : f A < g A) : ∀ {n : Nat}, A < n → ((List.range n).map f).sum < ((List.range n).map g).sum
 | 0, h => by omega
 | n + 1, h => by
  rw [List.range_succ, List.map_append, List.map_append, List.sum_append, List.sum_append]
  simp only [List.map_cons, List.map_nil, List.sum_cons, List.sum_nil, Nat.add_zero]
  rcases Nat.lt_succ_iff_lt_or_eq.1 h with h1 | h1
  ·have := sum_lt hf hA h1
   rw [hf n (by omega)]
   omega
  ·subst h1
   have e : (List.range A).map f = (List.range A).map g := List.map_congr_left fun B hB => hf B (by have := List.mem_range.1 hB; omega)
   rw [e]; omega
theorem ysMu_set {S : Sp} {V : Nat → Nat} {R : List (List Nat)} {A : Nat} {u : List Nat} (hA : A < R.length) (hu : u ≠ []) (hl : u.length = V A) (hx : ∀ x ∈ u, x ≤ S.nl) (h : rF R A = [] ∨ ((rF R A).length = V A ∧ lex u (rF R A))) : ysMu S V (R.set A u) < ysMu S V R := by
 unfold ysMu
 rw [List.length_set]
 refine sum_lt (A := A) (fun B hB => ?_) ?_ hA
 ·unfold ysW
  rw [rF_set u hA, if_neg hB]
 ·unfold ysW
  rw [rF_set u hA, if_pos rfl, if_neg hu]
  have h1 := num_lt (K := S.nl + 2) (u := u) fun x hx' => by have := hx x hx'; omega
  rcases h with h | ⟨h2, h3⟩
  ·rw [if_pos h, ← hl]; exact h1
  ·split
   ·rename_i h4; rw [h4] at h2; simp at h2
    have : u.length = 0 := by omega
    exact absurd (List.eq_nil_of_length_eq_zero this) hu
   ·exact num_lex (hl.trans h2.symm) (fun x hx' => by have := hx x hx'; omega) h3
theorem MT_mkR {S : Sp} {V : Nat → Nat} {R : List (List Nat)} (hV : ∀ B, V B = 0 → MN S.g S.nl B []) (h : YsS S V R) : ∀ {r : List Sm}, (∀ B, Sm.m B ∈ r → V B > 0 → rF R B ≠ []) → MT S.g S.nl r (mkR S.nl (rF R) r)
 | [], _ => .nil
 | .t n :: r, hr => .t (MT_mkR hV h fun B hB => hr B (by simp [hB]))
 | .e :: r, hr => .e (MT_mkR hV h fun B hB => hr B (by simp [hB]))
 | .m A :: r, hr => by
  have ih := MT_mkR hV h (r := r) fun B hB => hr B (by simp [hB])
  have hA : MN S.g S.nl A (rF R A) := by
   by_cases h1 : rF R A = []
   ·rcases Nat.eq_zero_or_pos (V A) with h2 | h2
    ·rw [h1]; exact hV A h2
    ·exact absurd h1 (hr A (by simp) h2)
   ·exact (h.snd A h1).1
  obtain ⟨q, hm, hq⟩ := hA
  exact .m hm hq ih
theorem mkR_le {S : Sp} {V : Nat → Nat} {R : List (List Nat)} (h : YsS S V R) : ∀ {r : List Sm}, (∀ n, Sm.t n ∈ r → n ≤ S.nl) → ∀ x ∈ mkR S.nl (rF R) r, x ≤ S.nl
 | [], _, x, hx => by simp [mkR] at hx
 | .t n :: r, hr, x, hx => by
  rcases List.mem_cons.1 hx with rfl | hx
  ·exact hr _ (by simp)
  ·exact mkR_le h (fun n hn => hr n (by simp [hn])) x hx
 | .e :: r, hr, x, hx => by
  rcases List.mem_cons.1 hx with rfl | hx
  ·exact Nat.le_refl _
  ·exact mkR_le h (fun n hn => hr n (by simp [hn])) x hx
 | .m A :: r, hr, x, hx => by
  rcases List.mem_append.1 hx with hx | hx
  ·exact (h.snd A (fun h1 => by rw [h1] at hx; cases hx)).2.2 x hx
  ·exact mkR_le h (fun n hn => hr n (by simp [hn])) x hx
theorem YsS.set {S : Sp} {V : Nat → Nat} {R : List (List Nat)} (hI : Ix S) (hV : ∀ B, V B = 0 → MN S.g S.nl B []) (h : YsS S V R) {p : Pd} (hp : p ∈ S.ps) {u : List Nat} (hu : u = mkR S.nl (rF R) (row p.r)) (hr : ∀ B, Sm.m B ∈ row p.r → V B > 0 → rF R B ≠ []) (hl : u.length = V p.l.toNat) : YsS S V (R.set p.l.toNat u) := by
 have hpl := hI.pl hp
 have hlen := h.len
 refine ⟨by rw [List.length_set]; exact h.len, fun A hA => ?_⟩
 rw [rF_set u (by omega)] at hA ⊢
 by_cases h1 : A = p.l.toNat
 ·rw [if_pos h1]
  subst h1
  refine ⟨⟨_, g_mem hp, hu ▸ MT_mkR hV h hr⟩, hl, ?_⟩
  rw [hu]
  refine mkR_le h fun n hn => ?_
  obtain ⟨x, hx, h2, h3⟩ := row_t hn
  rcases hI.right p hp x hx with ⟨_, h4, h5, _⟩ | ⟨h4, _⟩ | ⟨h4, _⟩
  ·unfold Sp.nl; omega
  ·omega
  ·omega
 ·rw [if_neg h1] at hA ⊢
  exact h.snd A hA
theorem YsC.of {S : Sp} {V : Nat → Nat} {R : List (List Nat)} {i : Nat} {p : Pd} (hi : S.ps[i]? = some p) (h : ¬((∀ B, Sm.m B ∈ row p.r → V B > 0 → rF R B ≠ []) ∧ (mkR S.nl (rF R) (row p.r)).length = V p.l.toNat ∧ mkR S.nl (rF R) (row p.r) ≠ []) ∨ (rF R p.l.toNat ≠ [] ∧ leq (rF R p.l.toNat) (mkR S.nl (rF R) (row p.r)))) : YsC S V i R := fun q hq h1 h2 h3 => by
 rw [hi] at hq; cases hq
 rcases h with h | h
 ·exact absurd ⟨h1, h2, h3⟩ h
 ·exact h
theorem YsP.isY {S : Sp} {V : Nat → Nat} {R : List (List Nat)} (h : YsS S V R) (hc : ∀ j, j < S.ps.length → YsC S V j R) : IsY S.g S.nl V (rF R) :=
 ⟨fun A hA => ⟨(h.snd A hA).1, (h.snd A hA).2.1⟩, fun A r hm h1 h2 h3 => by
  obtain ⟨j, p, hj, hp, e1, e2⟩ := g_idx hm
  have := hc j hj p hp
  rw [e1, e2] at this
  exact this h1 h2 h3⟩
theorem YsS.start (S : Sp) (V : Nat → Nat) : YsS S V (List.replicate S.ns.length []) := by
 refine ⟨by simp, fun A hA => ?_⟩
 have : rF (List.replicate S.ns.length []) A = [] := by
  unfold rF
  rw [List.getElem?_replicate]
  split <;> rfl
 exact absurd this hA
theorem V0_nil {S : Sp} {top : Nat} {V : Nat → Nat} (h : IsC S.g 0 1 top V) (ht : 0 < top) (B : Nat) (hB : V B = 0) : MN S.g S.nl B [] := by
 have h1 := h.snd B (by omega)
 rw [hB] at h1
 obtain ⟨u, hu, hl⟩ := (CN_MN (nl := S.nl)).1 h1
 rw [List.eq_nil_of_length_eq_zero hl] at hu
 exact hu
theorem lex_leq {u v : List Nat} (hl : u.length = v.length) (h : ¬lex u v) : leq v u := by
 rintro (h1 | ⟨_, h1⟩)
 ·omega
 ·exact h h1
def YldR (S : Sp) (ls : List (List Nat)) : Prop := ls.length = S.ns.length ∧ ∀ A u, ls[A]? = some u → Yd S.g S.nl A u
theorem mkR_app {nl : Nat} {R : Nat → List Nat} : ∀ (a b : List Sm), mkR nl R (a ++ b) = mkR nl R a ++ mkR nl R b
 | [], _ => rfl
 | .t n :: a, b => by simp [mkR, mkR_app a b]
 | .e :: a, b => by simp [mkR, mkR_app a b]
 | .m A :: a, b => by simp [mkR, mkR_app a b]
end Go.Proofs.YtkkpghlcmcaoiaaDoor
