/- What is reached: the plain law of its passes. No program. -/
import Derived.Test.YtkkpghlcmcaoiaaDoorSt
namespace Go.Proofs.YtkkpghlcmcaoiaaDoor
open Go.Vc Go.Gm

section
variable {X : Type} {Snd : X → Prop} {Cl : Nat → X → Prop} {mu : X → Nat} {i : Nat} {x0 x y : X} {gr : Bool}
theorem Stp.skipI (h : Stp Snd Cl mu i x0 x gr) (hc : gr = false → Cl i x) : Stp Snd Cl mu (i + 1) x0 x gr :=
  ⟨h.snd, fun hg => ⟨(h.cl hg).1, fun j hj => by
    rcases Nat.lt_succ_iff_lt_or_eq.1 hj with h1 | h1
    · exact (h.cl hg).2 j h1
    · rw [h1]; exact hc hg⟩, h.lt⟩
theorem Stp.mark (h : Stp Snd Cl mu i x0 x gr) (hs : Snd y) (hm : mu y < mu x) : Stp Snd Cl mu i x0 y true :=
  ⟨hs, fun h => by (cases h), fun _ => Nat.lt_of_lt_of_le hm h.le⟩
theorem Stp.mark' (h : Stp Snd Cl mu i x0 x true) (hs : Snd y) (hm : mu y ≤ mu x) : Stp Snd Cl mu i x0 y true :=
  ⟨hs, fun h => by (cases h), fun _ => Nat.lt_of_le_of_lt hm (h.lt rfl)⟩
end
theorem set_on {bs : List Bool} {j : Nat} (h : bs[j]? = some true) : bs.set j true = bs := by
  refine List.ext_getElem? fun k => ?_
  rw [List.getElem?_set]
  split
  · rename_i h1; subst h1
    obtain ⟨hj, he⟩ := List.getElem?_eq_some_iff.1 h
    rw [if_pos hj, h]
  · rfl
theorem falses_set {bs : List Bool} {j : Nat} (h : j < bs.length) : falses (bs.set j true) ≤ falses bs := by
  rcases bool_cases h with h1 | h1
  · rw [set_on h1]; exact Nat.le_refl _
  · exact Nat.le_of_lt (count_on h1)
abbrev RcX := List Bool × List Bool
def rcOn (x : RcX) : Sm → Prop
  | .m B => on x.1 B
  | .t n => on x.2 n
  | .e => True
structure RcS (S : Sp) (x : RcX) : Prop where
  l1 : x.1.length = S.ns.length
  l2 : x.2.length = S.lx.length
  st : on x.1 S.st.toNat
  snd : ∀ y, y ≠ .e → rcOn x y → Rch S.g S.st.toNat y
def RcC (S : Sp) (j : Nat) (x : RcX) : Prop := ∀ p, S.ps[j]? = some p → on x.1 p.l.toNat → ∀ y ∈ row p.r, rcOn x y
def rcMu (x : RcX) : Nat := falses x.1 + falses x.2
abbrev RcP (S : Sp) := Stp (RcS S) (RcC S) rcMu
/-- as far as k within the production i -/
structure RcI (S : Sp) (i : Nat) (p : Pd) (k : Nat) (x0 x : RcX) (gr : Bool) : Prop where
  h : RcP S i x0 x gr
  l : on x.1 p.l.toNat
  d : gr = false → ∀ y ∈ (row p.r).take k, rcOn x y
theorem RcS.m1 {S : Sp} {x : RcX} (h : RcS S x) {p : Pd} (hp : p ∈ S.ps) (hl : on x.1 p.l.toNat) {y : Sy} (hy : y ∈ p.r) (h3 : sm y = .m y.2.toNat) (hb : y.2.toNat < S.ns.length) : RcS S (x.1.set y.2.toNat true, x.2) := by
  have hlen := h.l1
  refine ⟨by simpa using h.l1, h.l2, (on_set (by omega)).2 (.inr h.st), fun z hz ho => ?_⟩
  cases z with
  | e => exact absurd rfl hz
  | t n => exact h.snd (.t n) hz ho
  | m B =>
    rcases (on_set (by omega)).1 ho with hB | ho
    · subst hB
      exact .step (h.snd (.m _) (by simp) hl) (g_mem hp) (List.mem_map.2 ⟨y, hy, h3⟩)
    · exact h.snd (.m B) hz ho
theorem RcS.m2 {S : Sp} {x : RcX} (h : RcS S x) {p : Pd} (hp : p ∈ S.ps) (hl : on x.1 p.l.toNat) {y : Sy} (hy : y ∈ p.r) (h3 : sm y = .t y.2.toNat) (hb : y.2.toNat < S.lx.length) : RcS S (x.1, x.2.set y.2.toNat true) := by
  have hlen := h.l2
  refine ⟨h.l1, by simpa using h.l2, h.st, fun z hz ho => ?_⟩
  cases z with
  | e => exact absurd rfl hz
  | m n => exact h.snd (.m n) hz ho
  | t B =>
    rcases (on_set (by omega)).1 ho with hB | ho
    · subst hB
      exact .step (h.snd (.m _) (by simp) hl) (g_mem hp) (List.mem_map.2 ⟨y, hy, h3⟩)
    · exact h.snd (.t B) hz ho
theorem take_row {r : List Sy} {k : Nat} {y : Sy} (h : r[k]? = some y) {z : Sm} (hz : z ∈ (row r).take (k + 1)) : z ∈ (row r).take k ∨ z = sm y := by
  have h' : (row r)[k]? = some (sm y) := by rw [row, List.getElem?_map, h]; rfl
  rw [List.take_add_one, h'] at hz
  simpa using hz
theorem RcI.start {S : Sp} {i : Nat} {p : Pd} {x0 x : RcX} {gr : Bool} (h : RcP S i x0 x gr) (hl : on x.1 p.l.toNat) : RcI S i p 0 x0 x gr := ⟨h, hl, fun _ y hy => by simp at hy⟩
theorem RcI.pass {S : Sp} {i k : Nat} {p : Pd} {x0 x : RcX} {gr : Bool} (h : RcI S i p k x0 x gr) {y : Sy} (hk : p.r[k]? = some y) (ho : rcOn x (sm y)) : RcI S i p (k + 1) x0 x gr :=
  ⟨h.h, h.l, fun hg z hz => (take_row hk hz).elim (h.d hg z) fun e => e ▸ ho⟩
theorem RcI.mark {S : Sp} {i k : Nat} {p : Pd} {x0 x y : RcX} {gr : Bool} (h : RcI S i p k x0 x gr) (hs : RcS S y) (hl : on y.1 p.l.toNat) (hm : rcMu y < rcMu x) : RcI S i p (k + 1) x0 y true := ⟨h.h.mark hs hm, hl, fun h => by cases h⟩
theorem RcI.mark' {S : Sp} {i k : Nat} {p : Pd} {x0 x y : RcX} (h : RcI S i p k x0 x true) (hs : RcS S y) (hl : on y.1 p.l.toNat) (hm : rcMu y ≤ rcMu x) : RcI S i p (k + 1) x0 y true := ⟨h.h.mark' hs hm, hl, fun h => by cases h⟩
theorem RcI.done {S : Sp} {i : Nat} {p : Pd} {x0 x : RcX} {gr : Bool} (h : RcI S i p p.r.length x0 x gr) (hi : S.ps[i]? = some p) : RcP S (i + 1) x0 x gr :=
  h.h.skipI fun hg q hq _ y hy => by
    rw [hi] at hq; cases hq
    exact h.d hg y (by rw [List.take_of_length_le (by rw [row_len]; exact Nat.le_refl _)]; exact hy)
theorem RcP.pass {S : Sp} {i : Nat} {p : Pd} {x0 x : RcX} {gr : Bool} (h : RcP S i x0 x gr) (hi : S.ps[i]? = some p) (ho : x.1[p.l.toNat]? = some false) : RcP S (i + 1) x0 x gr :=
  h.skip fun q hq hl => by rw [hi] at hq; cases hq; exact absurd hl (off_of ho)
/-- what is reached -/
structure IsRc (S : Sp) (x : RcX) : Prop where
  l1 : x.1.length = S.ns.length
  l2 : x.2.length = S.lx.length
  n : ∀ B, on x.1 B ↔ Rch S.g S.st.toNat (.m B)
  r : ∀ t, on x.2 t ↔ Rch S.g S.st.toNat (.t t)
theorem RcP.isRc {S : Sp} {x : RcX} (h : RcS S x) (hc : ∀ j, j < S.ps.length → RcC S j x) : IsRc S x := by
  have key : ∀ y, Rch S.g S.st.toNat y → rcOn x y := fun y hy => by
    induction hy with
    | start => exact h.st
    | @step A r z _ hm hz ih =>
      obtain ⟨j, p, hj, hp, h1, h2⟩ := g_idx hm
      exact hc j hj p hp (by rw [h1]; exact ih) z (by rw [h2]; exact hz)
  exact ⟨h.l1, h.l2, fun B => ⟨h.snd (.m B) (by simp), key (.m B)⟩, fun t => ⟨h.snd (.t t) (by simp), key (.t t)⟩⟩
theorem IsRc.same {S : Sp} {x y : RcX} (h : IsRc S x) (h' : IsRc S y) : x = y := by
  have e1 := bools_ext (h.l1.trans h'.l1.symm) fun A => (h.n A).trans (h'.n A).symm
  have e2 := bools_ext (h.l2.trans h'.l2.symm) fun A => (h.r A).trans (h'.r A).symm
  exact Prod.ext e1 e2
theorem RcS.start {S : Sp} (h : 0 ≤ S.st ∧ S.st < S.ns.length) : RcS S ((List.replicate S.ns.length false).set S.st.toNat true, List.replicate S.lx.length false) := by
  have hoff : ∀ (n A : Nat), ¬on (List.replicate n false) A := fun n A hA => by
    unfold on at hA
    rw [List.getElem?_replicate] at hA
    split at hA
    · simp at hA
    · cases hA
  refine ⟨by simp, by simp, (on_set (by simp; omega)).2 (.inl rfl), fun y hy ho => ?_⟩
  cases y with
  | e => exact absurd rfl hy
  | t n => exact absurd ho (hoff _ _)
  | m B =>
    rcases (on_set (by simp; omega)).1 ho with hB | hB
    · subst hB; exact .start
    · exact absurd hB (hoff _ _)
theorem mu1 {bs cs : List Bool} {j : Nat} (h : bs[j]? = some false) : rcMu (bs.set j true, cs) < rcMu (bs, cs) := by have := count_on h; simp only [rcMu, falses]; omega
theorem mu2 {bs cs : List Bool} {j : Nat} (h : cs[j]? = some false) : rcMu (bs, cs.set j true) < rcMu (bs, cs) := by have := count_on h; simp only [rcMu, falses]; omega
theorem mu1' {bs cs : List Bool} {j : Nat} (h : j < bs.length) : rcMu (bs.set j true, cs) ≤ rcMu (bs, cs) := by have := falses_set h; simp only [rcMu]; omega
theorem mu2' {bs cs : List Bool} {j : Nat} (h : j < cs.length) : rcMu (bs, cs.set j true) ≤ rcMu (bs, cs) := by have := falses_set h; simp only [rcMu]; omega
theorem gr_cases {bs : List Bool} {j : Nat} (gr : Bool) (h : j < bs.length) : gr = true ∨ (gr = false ∧ bs[j]? = some true) ∨ (gr = false ∧ bs[j]? = some false) := by
  cases gr
  · exact .inr ((bool_cases h).imp (fun h => ⟨rfl, h⟩) fun h => ⟨rfl, h⟩)
  · exact .inl rfl
/-- the first rule that is not reached, and is no trivia -/
def fR : List Bool → List Lx → Nat → Int × Int
  | b :: l, r :: m, i => if b = false ∧ r.tr = false then (72, i) else fR l m (i + 1)
  | _, _, _ => (0, 0)
theorem fR_step {bs : List Bool} {lx : List Lx} {i : Nat} {b : Bool} {r : Lx} (h : bs[i]? = some b) (hr : lx[i]? = some r) : fR (bs.drop i) (lx.drop i) i = if b = false ∧ r.tr = false then (72, (i : Int)) else fR (bs.drop (i + 1)) (lx.drop (i + 1)) (i + 1) := by rw [drop_of h, drop_of hr]; rfl
theorem fR_ok : ∀ {bs : List Bool} {lx : List Lx} {i : Nat}, bs.length = lx.length → ((fR bs lx i).1 = 0 ↔ ∀ t r, lx[t]? = some r → r.tr = false → on bs t)
  | [], [], _, _ => by simp [fR]
  | b :: l, r :: m, i, h => by
    have ih := fR_ok (bs := l) (lx := m) (i := i + 1) (by simpa using h)
    rw [fR]
    split
    · rename_i h1
      constructor
      · intro h; cases h
      · intro h2
        have := h2 0 r rfl h1.2
        unfold on at this
        rw [h1.1] at this
        cases this
    · rename_i h1
      rw [ih]
      constructor
      · intro h2 t q hq ht
        cases t with
        | zero =>
          simp only [List.getElem?_cons_zero, Option.some.injEq] at hq
          subst hq
          cases b
          · exact absurd ⟨rfl, ht⟩ h1
          · rfl
        | succ t => exact h2 t q (by simpa using hq) ht
      · intro h2 t q hq ht
        exact h2 (t + 1) q (by simpa using hq) ht
  | [], _ :: _, _, h => by simp at h
  | _ :: _, [], _, h => by simp at h
/-- the first that is not reached -/
def rcE (S : Sp) (x : RcX) : Int × Int := if 0 ≤ fF x.1 0 then (72, fF x.1 0) else fR x.2 S.lx 0
end Go.Proofs.YtkkpghlcmcaoiaaDoor
