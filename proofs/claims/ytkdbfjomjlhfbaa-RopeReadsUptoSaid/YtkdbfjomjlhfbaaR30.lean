import Derived.Test.YtkdbfjomjlhfbaaProg
import Derived.Test.YtkdbfjomjlhfbaaR29
namespace Go.Proofs.Ytkdbfjomjlhfbaa
open Go.Vc
set_option linter.unusedSectionVars false
variable [Inhabited Zt]

theorem bin_quo3 {P : Program} {w : World} {T : TypeId} {a b : Operand} {z : Int} (h1 : -9223372036854775808 ≤ z) (h2 : z ≤ 9223372036854775807) :
  (vS (do eqGuard .quo T a b (I6 z) (I6 3); binOp .quo T (I6 z) (I6 3))).run P w = .ok (.value (I6 (z.tdiv 3))) w := by
 have hb : -9223372036854775808 ≤ z.tdiv 3 ∧ z.tdiv 3 ≤ 9223372036854775807 := by
  rcases Int.le_total 0 z with h | h
  ·rw [Int.tdiv_eq_ediv_of_nonneg h]; omega
  ·obtain ⟨y, rfl⟩ : ∃ y, z = -y := ⟨-z, by omega⟩
   rw [Int.neg_tdiv, Int.tdiv_eq_ediv_of_nonneg (by omega)]; omega
 have h3 := as_i64 (z := z.tdiv 3) (by omega)
 simp only [Value.int.injEq, true_and] at h3
 refine vS_run ?_
 have h4 : (binOp .quo T (I6 z) (I6 3)).run P w = .ok (I6 (IntKind.i64.wrap (z.tdiv 3))) w := rfl
 rw [h3] at h4
 simpa [eqGuard] using h4
def Ro (w : World) (b : Nat) (xs : List Int) : Prop := ∃ F, Rp2 F w b xs
/-- a reader that may be none -/
structure Rr where
 p : Option Nat
 B : List Nat
def Rr.v (x : Rr) : Value := .pointer (x.p.map fun r => ⟨r, 0, none⟩)
/-- a reader of the text t at place a; K: its blocks are no elder -/
def RrOk (N K : Nat) (w : World) (a : Int) (t : List Int) (x : Rr) : Prop :=
 (∀ b ∈ x.B, K ≤ b) ∧ ((x.p = none ∧ x.B = [] ∧ (a < 0 ∨ a > (t.length : Int))) ∨ ∃ r i : Nat, x.p = some r ∧ a = (i : Int) ∧ i ≤ t.length ∧ Rdr N w r x.B i (t.drop i))
theorem RrOk.ext {N K : Nat} {w w' : World} {a : Int} {t : List Int} {x : Rr} {M : List Nat} (h : RrOk N K w a t x) (hE : Ext M w w') (hM : ∀ b ∈ M, N ≤ b ∧ b ∉ x.B) : RrOk N K w' a t x := by
 obtain ⟨h0, h1 | ⟨r, i, h1, h2, h3, h4⟩⟩ := h
 ·exact ⟨h0, .inl h1⟩
 ·exact ⟨h0, .inr ⟨r, i, h1, h2, h3, h4.ext hE hM⟩⟩
structure RA (N K : Nat) (w : World) (ats : List Int) (txs : List (List Int)) (L : List Rr) : Prop where
 ok : ∀ (i : Nat) (x : Rr) (a : Int) (t : List Int), L[i]? = some x → ats[i]? = some a → txs[i]? = some t → RrOk N K w a t x
 dj : ∀ (i j : Nat) (x y : Rr), i ≠ j → L[i]? = some x → L[j]? = some y → ∀ b ∈ x.B, b ∉ y.B
 ti : ∀ x ∈ L, Lie w x.B
 kb : ∀ x ∈ L, ∀ b ∈ x.B, K ≤ b
theorem RA.ext0 {N K : Nat} {w w' : World} {ats : List Int} {txs : List (List Int)} {L : List Rr} (h : RA N K w ats txs L) (hE : Ext [] w w') : RA N K w' ats txs L :=
 ⟨fun i x a t h1 h2 h3 => (h.ok i x a t h1 h2 h3).ext hE (by simp), h.dj, fun x hx => (h.ti x hx).ext hE, h.kb⟩
theorem RA.extN {N K : Nat} {w w' : World} {ats : List Int} {txs : List (List Int)} {L : List Rr} {M : List Nat} (h : RA N K w ats txs L) (hE : Ext M w w') (hM : ∀ b ∈ M, N ≤ b ∧ ∀ x ∈ L, b ∉ x.B) : RA N K w' ats txs L :=
 ⟨fun i x a t h1 h2 h3 => (h.ok i x a t h1 h2 h3).ext hE (fun b hb => ⟨(hM b hb).1, (hM b hb).2 x (List.mem_of_getElem? h1)⟩), h.dj, fun x hx => (h.ti x hx).ext hE, h.kb⟩
theorem RA.snoc {N K : Nat} {w w' : World} {ats : List Int} {txs : List (List Int)} {L : List Rr} {x : Rr} {a : Int} {t : List Int} (h : RA N K w ats txs L) (hE : Ext [] w w') (ha : ats[L.length]? = some a) (ht : txs[L.length]? = some t) (hx : RrOk N K w' a t x) (hn : ∀ b ∈ x.B, w.heap.size ≤ b) (hl : Lie w' x.B) : RA N K w' ats txs (L ++ [x]) := by
 have h' := h.ext0 hE
 refine ⟨fun i y a' t' h1 h2 h3 => ?_, fun i j y z hij h1 h2 b hb hb' => ?_, fun y hy => ?_, fun y hy => ?_⟩
 ·rcases Nat.lt_trichotomy i L.length with hi | hi | hi
  ·rw [List.getElem?_append_left hi] at h1; exact h'.ok i y a' t' h1 h2 h3
  ·subst hi
   rw [ha] at h2; rw [ht] at h3; cases h2; cases h3
   simp at h1; subst h1; exact hx
  ·have := (List.getElem?_eq_some_iff.1 h1).1; simp at this; omega
 ·have li := (List.getElem?_eq_some_iff.1 h1).1
  have lj := (List.getElem?_eq_some_iff.1 h2).1
  simp at li lj
  rcases Nat.lt_or_ge i L.length with hi | hi
  ·rw [List.getElem?_append_left hi] at h1
   rcases Nat.lt_or_ge j L.length with hj | hj
   ·rw [List.getElem?_append_left hj] at h2; exact h.dj i j y z hij h1 h2 b hb hb'
   ·obtain rfl : j = L.length := by omega
    simp at h2; subst h2
    have := hn b hb'
    have := h.ti y (List.mem_of_getElem? h1) b hb
    omega
  ·obtain rfl : i = L.length := by omega
   simp at h1; subst h1
   rcases Nat.lt_or_ge j L.length with hj | hj
   ·rw [List.getElem?_append_left hj] at h2
    have := hn b hb
    have := h.ti z (List.mem_of_getElem? h2) b hb'
    omega
   ·omega
 ·rcases List.mem_append.1 hy with hy | hy
  ·exact h'.ti y hy
  ·simp at hy; subst hy; exact hl
 ·rcases List.mem_append.1 hy with hy | hy
  ·exact h.kb y hy
  ·simp at hy; subst hy; exact hx.1
theorem Rdr.ne {N : Nat} {w : World} {r : Nat} {B : List Nat} {i : Nat} {G : List Int} (h : Rdr N w r B i G) {n : Nat} {v : Value} {xs : List Value} (hO : OwnV w 76 1 v n xs) : ∀ b ∈ ob v, b ∉ B := fun b hb hm => by
 obtain ⟨Z, F, wb, pv, lv, ys, st, h1, h2, rfl, _⟩ := h
 simp only [List.mem_cons] at hm
 rcases hm with rfl | rfl | hm
 ·exact hO.ne h1 (by decide) _ hb rfl
 ·exact hO.ne h2.blk (by decide) _ hb rfl
 ·exact hO.disj h2.own (by decide) b hb hm
theorem RA.nv {N K : Nat} {w : World} {ats : List Int} {txs : List (List Int)} {L : List Rr} (h : RA N K w ats txs L) {n : Nat} {v : Value} {xs : List Value} (hO : OwnV w 76 1 v n xs) (hla : L.length ≤ ats.length) (hlt : L.length ≤ txs.length) : ∀ x ∈ L, ∀ b ∈ ob v, b ∉ x.B := fun x hx b hb hm => by
 obtain ⟨i, hi⟩ := List.getElem?_of_mem hx
 have hil := (List.getElem?_eq_some_iff.1 hi).1
 obtain ⟨_, ⟨_, h2, _⟩ | ⟨r, j, _, _, _, h5⟩⟩ := h.ok i x _ _ hi (List.getElem?_eq_getElem (by omega)) (List.getElem?_eq_getElem (by omega))
 ·rw [h2] at hm; cases hm
 ·exact h5.ne hO b hb hm
theorem RA.app {N K : Nat} {w w' : World} {ats : List Int} {txs : List (List Int)} {L : List Rr} (h : RA N K w ats txs L) {n : Nat} {v : Value} {xs : List Value} (hO : OwnV w 76 1 v n xs) (hN : ∀ b ∈ ob v, N ≤ b) (hE : Ext (ob v) w w') (hla : L.length ≤ ats.length) (hlt : L.length ≤ txs.length) : RA N K w' ats txs L :=
 h.extN hE fun b hb => ⟨hN b hb, fun x hx => h.nv hO hla hlt x hx b hb⟩
theorem set_same {α : Type} {l : List α} {k : Nat} {a : α} (h : l[k]? = some a) : l.set k a = l := by
 have hk := (List.getElem?_eq_some_iff.1 h).1
 refine List.ext_getElem? fun i => ?_
 by_cases hi : i = k
 ·subst hi; rw [List.getElem?_set_self hk, h]
 ·rw [List.getElem?_set_ne (Ne.symm hi)]
theorem map_v_set {L : List Rr} {k r : Nat} {x : Rr} {B' : List Nat} (hx : L[k]? = some x) (hp : x.p = some r) : (L.set k ⟨some r, B'⟩).map Rr.v = L.map Rr.v := by
 rw [List.map_set]
 refine set_same ?_
 rw [List.getElem?_map, hx]
 simp [Rr.v, hp]
/-- one reader has gone on -/
theorem RA.step {N K : Nat} {w w' : World} {ats : List Int} {txs : List (List Int)} {L : List Rr} {k r i j : Nat} {t : List Int} {x : Rr} {B' : List Nat} (h : RA N K w ats txs L) (hx : L[k]? = some x) (hp : x.p = some r) (hE : Ext x.B w w') (hF : Fresh w.heap.size x.B B') (ht : txs[k]? = some t) (ha : ats[k]? = some (i : Int))
  (hK : K ≤ w.heap.size) (hN : ∀ b ∈ x.B, N ≤ b) (hj : j ≤ t.length) (hR : Rdr N w' r B' j (t.drop j)) : RA N K w' (ats.set k (j : Int)) txs (L.set k ⟨some r, B'⟩) := by
 have hkl := (List.getElem?_eq_some_iff.1 hx).1
 have hka := (List.getElem?_eq_some_iff.1 ha).1
 have hxo := h.ok k x _ t hx ha ht
 refine ⟨fun q y a' t' h1 h2 h3 => ?_, fun p q y z hpq h1 h2 b hb hb' => ?_, fun y hy => ?_, fun y hy => ?_⟩
 ·by_cases hq : q = k
  ·subst hq
   rw [List.getElem?_set_self hkl] at h1
   rw [List.getElem?_set_self hka] at h2
   rw [ht] at h3
   simp only [Option.some.injEq] at h1 h2 h3
   subst h1; subst h2; subst h3
   exact ⟨fun b hb => (hF b hb).elim (hxo.1 b) (Nat.le_trans hK), .inr ⟨r, j, rfl, rfl, hj, hR⟩⟩
  ·rw [List.getElem?_set_ne (Ne.symm hq)] at h1 h2
   exact (h.ok q y a' t' h1 h2 h3).ext hE fun b hb => ⟨hN b hb, fun hb' => h.dj k q x y (Ne.symm hq) hx h1 b hb hb'⟩
 ·have key : ∀ (q : Nat) (y : Rr), q ≠ k → L[q]? = some y → ∀ b ∈ B', b ∉ y.B := fun q y hq hy b hb hb' => by
   rcases hF b hb with h4 | h4
   ·exact h.dj k q x y (Ne.symm hq) hx hy b h4 hb'
   ·have := h.ti y (List.mem_of_getElem? hy) b hb'; omega
  by_cases hp' : p = k
  ·subst hp'
   rw [List.getElem?_set_self hkl] at h1
   rw [List.getElem?_set_ne hpq] at h2
   simp only [Option.some.injEq] at h1; subst h1
   exact key q z (Ne.symm hpq) h2 b hb hb'
  ·rw [List.getElem?_set_ne (Ne.symm hp')] at h1
   by_cases hq' : q = k
   ·subst hq'
    rw [List.getElem?_set_self hkl] at h2
    simp only [Option.some.injEq] at h2; subst h2
    exact key p y hp' h1 b hb' hb
   ·rw [List.getElem?_set_ne (Ne.symm hq')] at h2
    exact h.dj p q y z hpq h1 h2 b hb hb'
 ·rcases List.mem_or_eq_of_mem_set hy with hy | rfl
  ·exact (h.ti y hy).ext hE
  ·exact hR.lie
 ·rcases List.mem_or_eq_of_mem_set hy with hy | rfl
  ·exact h.kb y hy
  ·exact fun b hb => (hF b hb).elim (hxo.1 b) (Nat.le_trans hK)
theorem getElem?_three {α : Type} {a b c x : α} {i : Nat} (h : ([a, b, c] : List α)[i]? = some x) : (i = 0 ∧ x = a) ∨ (i = 1 ∧ x = b) ∨ (i = 2 ∧ x = c) := by
 match i with
 | 0 => simp at h; exact .inl ⟨rfl, h.symm⟩
 | 1 => simp at h; exact .inr (.inl ⟨rfl, h.symm⟩)
 | 2 => simp at h; exact .inr (.inr ⟨rfl, h.symm⟩)
 | i + 3 => simp at h
structure Tri (w : World) (p u : Nat) (q q2 : Value) (xs ys : List Int) (i b : Nat) (v : Value) (t : List Int) : Prop where
 ro : Ro w b t
 rd : RdV w 1 v t.length (bv t)
 le : t.length ≤ 16777216
theorem tri {w : World} {p u i : Nat} {q q2 : Value} {xs ys : List Int} (hp : Ro w p xs) (hu : Ro w u ys) (hq : RdV w 1 q xs.length (bv xs)) (hq2 : RdV w 1 q2 ys.length (bv ys)) (hx : xs.length ≤ 16777216) (hy : ys.length ≤ 16777216) (hi : i < 3) :
  ∃ b v t, ([p, p, u] : List Nat)[i]? = some b ∧ ([q, q, q2] : List Value)[i]? = some v ∧ ([xs, xs, ys] : List (List Int))[i]? = some t ∧ Tri w p u q q2 xs ys i b v t := by
 match i, hi with
 | 0, _ => exact ⟨p, q, xs, rfl, rfl, rfl, hp, hq, hx⟩
 | 1, _ => exact ⟨p, q, xs, rfl, rfl, rfl, hp, hq, hx⟩
 | 2, _ => exact ⟨u, q2, ys, rfl, rfl, rfl, hu, hq2, hy⟩
def pvs (l : List Nat) : List Value := l.map Pv
theorem pvs_at {l : List Nat} {i b : Nat} (h : l[i]? = some b) : (pvs l)[i]? = some (Pv b) := by simp [pvs, h]
theorem iv_set (xs : List Int) (k : Nat) (x : Int) : (iv xs).set k (I6 x) = iv (xs.set k x) := by simp [iv, List.map_set]
theorem RdRo {w w' : World} {b : Nat} {xs : List Int} (h : Ro w b xs) (hE : Ext [] w w') : Ro w' b xs := by obtain ⟨F, h⟩ := h; exact ⟨F, h.ext0 hE⟩
theorem Read_no' {w : World} {b : Nat} {xs : List Int} (h : Ro w b xs) {x : Int} (hx : x < 0 ∨ x > (xs.length : Int)) : Calls Try.prog 37 #[Pv b, I6 x] w fun e w' => e = .returned (.tuple #[.pointer none, I6 3]) ∧ Ext [] w w' := by
 obtain ⟨F, h⟩ := h; exact Read_no h hx
theorem Read_ok' {w0 w : World} {b : Nat} {xs : List Int} (h : Ro w0 b xs) (hE : Ext [] w0 w) {i : Nat} (hi : i ≤ xs.length) : Calls Try.prog 37 #[Pv b, I6 i] w fun e w' => ∃ r B, e = .returned (.tuple #[Pv r, I6 0]) ∧ Rdr w0.heap.size w' r B i (xs.drop i) ∧ (∀ x ∈ B, w.heap.size ≤ x) ∧ Ext [] w w' := by
 obtain ⟨F, h⟩ := h; exact Read_ok h hE hi
theorem Rdr.self {N : Nat} {w : World} {r : Nat} {B : List Nat} {i : Nat} {G : List Int} (h : Rdr N w r B i G) : r ∈ B := by obtain ⟨Z, F, wb, pv, lv, ys, st, _, _, rfl, _⟩ := h; simp
theorem Rdr.lower {N : Nat} {w : World} {r : Nat} {B : List Nat} {i : Nat} {G : List Int} (h : Rdr N w r B i G) {K : Nat} (hK : ∀ x ∈ B, K ≤ x) (t : List Int) (hG : G = t.drop i) (hi : i ≤ t.length) : RrOk N K w (i : Int) t ⟨some r, B⟩ :=
 ⟨hK, .inr ⟨r, i, rfl, rfl, hi, by rw [← hG]; exact h⟩⟩

set_option maxHeartbeats 2000000 in
theorem RopeReads_any {v v2 vt : Value} {l l2 : List Sx} {m : Nat} {ts : List Int} {x y z : Int} {w : World} (hs : Scr w v l) (hs2 : Scr w v2 l2) (ht : RdV w 1 vt m (iv ts)) (hm : m ≤ 17592186044416) (htm : ∀ z ∈ ts, -9223372036854775808 ≤ z ∧ z ≤ 9223372036854775807) :
  Calls Try.prog 11 #[v, v2, I6 x, I6 y, I6 z, vt] w fun e w' => e = .returned (.bool true) ∧ Ext [] w w' := by
 have htl : ts.length = m := by have := ht.len; simpa [iv] using this
 refine calls_body 218 [(0, v), (1, v2), (2, I6 x), (3, I6 y), (4, I6 z), (5, vt)] Try.func11 rfl (by kernel_rfl) (by kernel_rfl) (by kernel_rfl) fun a hS => ?_
 have hE0 : Ext [] w w := Ext.refl _ _
 refine sq fun K1 hK1 => ?_
 refine rgn 1 ?_
 refine sg wide_wide [.p] [] [(0, v), (1, v2), (2, I6 x), (3, I6 y), (4, I6 z), (5, vt), (12, .bool false)] 1 0 hS .nil fun a hS => ?_
 refine seg_end ?_
 refine hK1 _ _ ?_
 refine sq fun K2 hK2 => ?_
 refine sq fun K3 hK3 => ?_
 refine rgn 2 ?_
 refine eff_call wide_wide (r := 1) (f := 12) (vs := []) (cap := #[]) (d := (some 32)) hS (by kernel_rfl) Try.call12 #[] (by kernel_rfl) (Head_Y) ?_
 rintro _ wc4 ⟨rfl, hEc4⟩
 refine ⟨_, rfl, fun a hS => ?_⟩
 have hE5 := hE0.trans0 hEc4
 refine sg wide_wide [.p] [] [(0, v), (1, v2), (2, I6 x), (3, I6 y), (4, I6 z), (5, vt), (12, .bool false), (33, .bool false)] 2 0 hS .nil fun a hS => ?_
 refine seg_end ?_
 refine hK3 _ _ ?_
 refine cond_f hS rfl ?_
 refine wpIn_skip ?_
 refine hK2 _ _ ?_
 refine sq fun K6 hK6 => ?_
 refine rgn 9 ?_
 refine sg wide_wide [.p] [] [(0, v), (1, v2), (2, I6 x), (3, I6 y), (4, I6 z), (5, vt), (12, .bool false), (33, .bool false), (35, v)] 1 8 hS .nil fun a hS => ?_
 refine eff_call wide_wide (r := 7) (f := 26) (vs := [v]) (cap := #[]) (d := (some 36)) hS (by kernel_rfl) Try.call26 #[v] (by kernel_rfl) (built_any (hs.ext0 hE5)) ?_
 rintro _ wb1 ⟨F, b, c, q, xs, rfl, hb, hq, hEb1⟩
 refine ⟨_, rfl, fun a hS => ?_⟩
 have hE1 := hE5.trans0 hEb1
 refine sg wide_wide [.p, .p, .p, .p, .p, .p, .p] [] [(0, v), (1, v2), (2, I6 x), (3, I6 y), (4, I6 z), (5, vt), (12, .bool false), (33, .bool false), (13, (Pv b)), (14, (Pv c)), (15, .bool true)] 9 0 hS .nil fun a hS => ?_
 refine seg_end ?_
 refine hK6 _ _ ?_
 refine sq fun K7 hK7 => ?_
 refine rgn 9 ?_
 refine sg wide_wide [.p] [] [(0, v), (1, v2), (2, I6 x), (3, I6 y), (4, I6 z), (5, vt), (12, .bool false), (33, .bool false), (13, (Pv b)), (14, (Pv c)), (15, .bool true), (41, v2)] 1 8 hS .nil fun a hS => ?_
 refine eff_call wide_wide (r := 7) (f := 26) (vs := [v2]) (cap := #[]) (d := (some 42)) hS (by kernel_rfl) Try.call26 #[v2] (by kernel_rfl) (built_any (hs2.ext0 hE1)) ?_
 rintro _ wb ⟨F2, u, c2, q2, ys, rfl, hb2, hq2, hEb2⟩
 refine ⟨_, rfl, fun a hS => ?_⟩
 have hE2 := hE1.trans0 hEb2
 obtain ⟨qb, qc, rfl⟩ := hq.2.1.form
 obtain ⟨qb2, qc2, rfl⟩ := hq2.2.1.form
 have hb' : Ro wb b xs := ⟨F, hb.ext0 hEb2⟩
 have hq' := hq.ext0 hEb2
 have hu' : Ro wb u ys := ⟨F2, hb2⟩
 have hx1 := hq'.2.2.2
 have hy1 := hq2.2.2.2
 have hEw := hE2
 have hEr0 : Ext [] wb wb := Ext.refl _ _
 refine sg wide_wide [.p, .p, .p, .p, .p, .p, .p] [] [(0, v), (1, v2), (2, I6 x), (3, I6 y), (4, I6 z), (5, vt), (12, .bool false), (33, .bool false), (13, (Pv b)), (14, (Pv c)), (15, .bool true), (16, (Pv u)), (17, (Pv c2)), (18, .bool true)] 9 0 hS .nil fun a hS => ?_
 refine seg_end ?_
 refine hK7 _ _ ?_
 refine sq fun K8 hK8 => ?_
 refine sq fun K9 hK9 => ?_
 refine rgn 6 ?_
 refine sg wide_wide [.p, .p, .p, .p, .p, .p] [] [(0, v), (1, v2), (2, I6 x), (3, I6 y), (4, I6 z), (5, vt), (12, .bool false), (33, .bool false), (13, (Pv b)), (14, (Pv c)), (15, .bool true), (16, (Pv u)), (17, (Pv c2)), (18, .bool true), (51, .bool false)] 6 0 hS .nil fun a hS => ?_
 refine seg_end ?_
 refine hK9 _ _ ?_
 refine cond_f hS rfl ?_
 refine wpIn_skip ?_
 refine hK8 _ _ ?_
 refine sq fun K10 hK10 => ?_
 refine rgn 5 ?_
 refine sg wide_wide [.p, .p, .p] [] [(0, v), (1, v2), (2, I6 x), (3, I6 y), (4, I6 z), (5, vt), (12, .bool false), (33, .bool false), (13, (Pv b)), (14, (Pv c)), (15, .bool true), (16, (Pv u)), (17, (Pv c2)), (18, .bool true), (51, .bool false), (52, (Pv b)), (53, (Pv b)), (54, (Pv u))] 3 2 hS .nil fun a hS => ?_
 refine eff_new wide_wide (r := 1) (cs := #[(Pv b), (Pv b), (Pv u)]) (T := 24) (v := Value.slice (some ⟨wb.heap.size, 0, none⟩) 3 3) (d := (some 55)) hS (by kernel_rfl) fun a w11 hw12 hS => ?_
 have hB15 := Blk.at' hw12 (hq'.1.alloc _)
 have hB16 := Blk.at' hw12 (hq2.1.alloc _)
 have hB17 : Blk w11 (wb.heap.size) 24 #[(Pv b), (Pv b), (Pv u)] := by rw [hw12]; exact Blk.new _ _ _
 have hs18 : wb.heap.size ≤ wb.heap.size := hEr0.size
 have hE19 : Ext [] wb w11 := by rw [hw12]; exact hEr0.alloc _
 refine sg wide_wide [.p] [] [(0, v), (1, v2), (2, I6 x), (3, I6 y), (4, I6 z), (5, vt), (12, .bool false), (33, .bool false), (13, (Pv b)), (14, (Pv c)), (15, .bool true), (16, (Pv u)), (17, (Pv c2)), (18, .bool true), (51, .bool false), (19, .slice (some ⟨wb.heap.size, 0, none⟩) 3 3)] 5 0 hS .nil fun a hS => ?_
 refine seg_end ?_
 refine hK10 _ _ ?_
 refine sq fun K20 hK20 => ?_
 refine region_fn2 wide_wide [.q .p, .q .p, .q .p, .q (.ld ((.slice qb xs.length qc))), .q .p, .q .p, .q .p, .q (.ld ((.slice qb xs.length qc))), .q .p, .q .p, .q .p, .q (.ld ((.slice qb2 ys.length qc2))), .e, .q .p] [0, 0, 0, 0, 0, 0, 0, 0, 0, 0, 0, 0, 0, 1] [0, 0, 0, 0, 0, 0, 0, 0, 0, 0, 0, 0, 0, 1] [0, 1, 3, 7, 0, 16, 48, 112, 0, 256, 768, 1792, 4095, 8191] [12] 1 ([(0, v), (1, v2), (2, I6 x), (3, I6 y), (4, I6 z), (5, vt), (12, .bool false), (33, .bool false), (13, (Pv b)), (14, (Pv c)), (15, .bool true), (16, (Pv u)), (17, (Pv c2)), (18, .bool true), (51, .bool false), (19, .slice (some ⟨wb.heap.size, 0, none⟩) 3 3), (56, (Pv c)), (57, (Pv c)), (58, (Pv c)), (59, (.slice qb xs.length qc)), (60, (Pv c)), (61, (Pv c)), (62, (Pv c)), (63, (.slice qb xs.length qc)), (64, (Pv c2)), (65, (Pv c2)), (66, (Pv c2)), (67, (.slice qb2 ys.length qc2)), (68, .slice (some ⟨w11.heap.size, 0, none⟩) 3 3), (20, .slice (some ⟨w11.heap.size, 0, none⟩) 3 3)]) [w11.drew, (w11.drew).alloc (.cells #[(.slice qb xs.length qc), (.slice qb xs.length qc), (.slice qb2 ys.length qc2)] 23)] w11.drew (fun w' => [(3, [w'.cell? ⟨c, 0, none⟩ = some ((.slice qb xs.length qc))]), (7, [w'.cell? ⟨c, 0, none⟩ = some ((.slice qb xs.length qc))]), (11, [w'.cell? ⟨c2, 0, none⟩ = some ((.slice qb2 ys.length qc2))])]) [0, 1, 2, 3, 4, 5, 12, 33, 13, 14, 15, 16, 17, 18, 51, 19] [] hS (by kernel_rfl) (by kernel_rfl) (by kernel_rfl) (by kernel_rfl) (fun _ => by kernel_rfl) (by kernel_rfl) (by kernel_rfl) (by kernel_rfl) ?_ ?_ ?_
 ·intro e w' hw
  refine (.cons ?_ (.cons ?_ (.cons ?_ .nil)))
  ·intro h1 h2
   obtain rfl : e = 0 := Nat.le_antisymm h2 h1
   obtain rfl : w' = w11.drew := hw.trans (by kernel_rfl)
   exact (.cons ((hB15.drew : Blk w11.drew c 56 (#[(.slice qb xs.length qc)])).cell 0 rfl) .nil)
  ·intro h1 h2
   obtain rfl : e = 0 := Nat.le_antisymm h2 h1
   obtain rfl : w' = w11.drew := hw.trans (by kernel_rfl)
   exact (.cons ((hB15.drew : Blk w11.drew c 56 (#[(.slice qb xs.length qc)])).cell 0 rfl) .nil)
  ·intro h1 h2
   obtain rfl : e = 0 := Nat.le_antisymm h2 h1
   obtain rfl : w' = w11.drew := hw.trans (by kernel_rfl)
   exact (.cons ((hB16.drew : Blk w11.drew c2 56 (#[(.slice qb2 ys.length qc2)])).cell 0 rfl) .nil)
 ·refine (.cons ?eq21_12 .nil)
  ·refine eff_at (w11.drew) ((w11.drew).alloc (.cells #[(.slice qb xs.length qc), (.slice qb xs.length qc), (.slice qb2 ys.length qc2)] 23)) (by kernel_rfl) (by kernel_rfl) ?_
   exact upon_new (nb := w11.heap.size) (cs := #[(.slice qb xs.length qc), (.slice qb xs.length qc), (.slice qb2 ys.length qc2)]) (T := 23) (v := Value.slice (some ⟨w11.heap.size, 0, none⟩) 3 3) (d := (some 68)) (by kernel_rfl) (by first | rfl | simp [upd_size]) ⟨by kernel_rfl, by kernel_rfl⟩
 rintro a w22 hS hw23
 replace hw23 : w22 = (w11.drew).alloc (.cells #[(.slice qb xs.length qc), (.slice qb xs.length qc), (.slice qb2 ys.length qc2)] 23) := hw23.trans (by kernel_rfl)
 have hB26 := Blk.at' hw23 ((hB17.drew).alloc _)
 have hB27 : Blk w22 w11.heap.size 23 (#[(.slice qb xs.length qc), (.slice qb xs.length qc), (.slice qb2 ys.length qc2)]) := by rw [hw23]; exact Blk.new' _ _ _ (by first | rfl | simp [upd_size])
 have hE28 : Ext [] wb w22 := by rw [hw23]; exact (hE19.drew).alloc _
 replace hS := hS.kp [(0, v), (1, v2), (2, I6 x), (3, I6 y), (4, I6 z), (5, vt), (12, .bool false), (33, .bool false), (13, (Pv b)), (14, (Pv c)), (15, .bool true), (16, (Pv u)), (17, (Pv c2)), (18, .bool true), (51, .bool false), (19, .slice (some ⟨wb.heap.size, 0, none⟩) 3 3), (20, .slice (some ⟨w11.heap.size, 0, none⟩) 3 3)]
 refine hK20 _ _ ?_
 refine sq fun K29 hK29 => ?_
 refine rgn 5 ?_
 refine sg wide_wide [.p, .p, .p] [] [(0, v), (1, v2), (2, I6 x), (3, I6 y), (4, I6 z), (5, vt), (12, .bool false), (33, .bool false), (13, (Pv b)), (14, (Pv c)), (15, .bool true), (16, (Pv u)), (17, (Pv c2)), (18, .bool true), (51, .bool false), (19, .slice (some ⟨wb.heap.size, 0, none⟩) 3 3), (20, .slice (some ⟨w11.heap.size, 0, none⟩) 3 3), (69, I6 x), (70, I6 y), (71, I6 z)] 3 2 hS .nil fun a hS => ?_
 refine eff_new wide_wide (r := 1) (cs := #[I6 x, I6 y, I6 z]) (T := 3) (v := Value.slice (some ⟨w22.heap.size, 0, none⟩) 3 3) (d := (some 72)) hS (by kernel_rfl) fun a w30 hw31 hS => ?_
 have hB38 := Blk.at' hw31 (hB26.alloc _)
 have hB39 := Blk.at' hw31 (hB27.alloc _)
 have hB40 : Blk w30 (w22.heap.size) 3 #[I6 x, I6 y, I6 z] := by rw [hw31]; exact Blk.new _ _ _
 have hs41 : wb.heap.size ≤ w22.heap.size := hE28.size
 have hE42 : Ext [] wb w30 := by rw [hw31]; exact hE28.alloc _
 refine sg wide_wide [.p] [] [(0, v), (1, v2), (2, I6 x), (3, I6 y), (4, I6 z), (5, vt), (12, .bool false), (33, .bool false), (13, (Pv b)), (14, (Pv c)), (15, .bool true), (16, (Pv u)), (17, (Pv c2)), (18, .bool true), (51, .bool false), (19, .slice (some ⟨wb.heap.size, 0, none⟩) 3 3), (20, .slice (some ⟨w11.heap.size, 0, none⟩) 3 3), (21, .slice (some ⟨w22.heap.size, 0, none⟩) 3 3)] 5 0 hS .nil fun a hS => ?_
 refine seg_end ?_
 refine hK29 _ _ ?_
 refine sq fun K43 hK43 => ?_
 refine rgn 1 ?_
 refine sg wide_wide [.p] [] [(0, v), (1, v2), (2, I6 x), (3, I6 y), (4, I6 z), (5, vt), (12, .bool false), (33, .bool false), (13, (Pv b)), (14, (Pv c)), (15, .bool true), (16, (Pv u)), (17, (Pv c2)), (18, .bool true), (51, .bool false), (19, .slice (some ⟨wb.heap.size, 0, none⟩) 3 3), (20, .slice (some ⟨w11.heap.size, 0, none⟩) 3 3), (21, .slice (some ⟨w22.heap.size, 0, none⟩) 3 3), (22, .slice none 0 0)] 1 0 hS .nil fun a hS => ?_
 refine seg_end ?_
 refine hK43 _ _ ?_
 refine sq fun K44 hK44 => ?_
 refine sq fun K45 hK45 => ?_
 refine rgn 1 ?_
 refine sg wide_wide [.p] [] [(0, v), (1, v2), (2, I6 x), (3, I6 y), (4, I6 z), (5, vt), (12, .bool false), (33, .bool false), (13, (Pv b)), (14, (Pv c)), (15, .bool true), (16, (Pv u)), (17, (Pv c2)), (18, .bool true), (51, .bool false), (19, .slice (some ⟨wb.heap.size, 0, none⟩) 3 3), (20, .slice (some ⟨w11.heap.size, 0, none⟩) 3 3), (21, .slice (some ⟨w22.heap.size, 0, none⟩) 3 3), (22, .slice none 0 0), (23, I6 0)] 1 0 hS .nil fun a hS => ?_
 refine seg_end ?_
 refine hK45 _ _ ?_
 refine wpIn_block ?_
 have hA0 : OwnR w30 24 1 wb.heap.size 3 3 (pvs [b, b, u]) := OwnR.of_blk (n := 3) hB38 rfl (by decide)
 have hT0 : OwnR w30 23 1 w11.heap.size 3 3 [.slice qb xs.length qc, .slice qb xs.length qc, .slice qb2 ys.length qc2] := OwnR.of_blk (n := 3) hB39 rfl (by decide)
 have hX0 : OwnR w30 3 1 w22.heap.size 3 3 (iv [x, y, z]) := OwnR.of_blk (n := 3) hB40 rfl (by decide)
 have hXn : wb.heap.size ≤ w22.heap.size := hs41
 have hEk := hE42
 obtain ⟨ab, heab⟩ : ∃ b, b = wb.heap.size := ⟨_, rfl⟩
 obtain ⟨tb, hetb⟩ : ∃ b, b = w11.heap.size := ⟨_, rfl⟩
 obtain ⟨xb, hexb⟩ : ∃ b, b = w22.heap.size := ⟨_, rfl⟩
 rw [← heab] at hA0
 rw [← hetb] at hT0
 rw [← hexb] at hX0 hXn
 rw [← heab, ← hetb, ← hexb] at hS
 have hXlt := hX0.lt
 refine loop_ghost (fun ((i, bs, cp, L) : Nat × Option Addr × Nat × List Rr) a' w' => St 218 [] [(5, vt), (19, .slice (some ⟨ab, 0, none⟩) 3 3), (20, .slice (some ⟨tb, 0, none⟩) 3 3), (21, .slice (some ⟨xb, 0, none⟩) 3 3), (22, .slice bs L.length cp), (23, I6 ↑i)] a' ∧ i ≤ 3 ∧ L.length = i ∧ OwnV w' 76 1 (.slice bs L.length cp) L.length (L.map Rr.v) ∧ (∀ x ∈ ob (.slice bs L.length cp), w30.heap.size ≤ x) ∧ RA wb.heap.size w30.heap.size w' [x, y, z] [xs, xs, ys] L ∧ Ext [] w30 w') (fun ((i, bs, cp, L) : Nat × Option Addr × Nat × List Rr) => 3 - i) (0, none, 0, []) ⟨hS.keepTo [5, 19, 20, 21, 22, 23] (by kernel_rfl), Nat.zero_le _, rfl, OwnV.nil _ _ _, (by simp [ob]), ⟨by simp, by simp, by simp, by simp⟩, Ext.refl _ _⟩ ?_
 rintro ⟨i, bs, cp, L⟩ a w1 ⟨hS, hi, hLi, hO, hOn, hRA, hEx⟩
 refine sq fun K46 hK46 => ?_
 refine sq fun K47 hK47 => ?_
 refine rgn 2 ?_
 refine sg wide_wide [.p, .p] [] [(5, vt), (19, .slice (some ⟨ab, 0, none⟩) 3 3), (20, .slice (some ⟨tb, 0, none⟩) 3 3), (21, .slice (some ⟨xb, 0, none⟩) 3 3), (22, .slice bs L.length cp), (23, I6 ↑i), (74, .bool (decide ((↑i : Int) < 3)))] 2 0 hS .nil fun a hS => ?_
 refine seg_end ?_
 refine hK47 _ _ ?_
 refine cond_b hS rfl (fun hb48 => ?_) (fun hb48 => ?_)
 ·
  replace hb48 := of_decide_eq_true hb48
  have hi3 : i < 3 := by omega
  obtain ⟨pb, tv, tx, hpb, htv, htx, hT⟩ := tri hb' hu' hq'.2.1 hq2.2.1 hx1 hy1 hi3
  obtain ⟨az, haz⟩ : ∃ az, ([x, y, z] : List Int)[i]? = some az := ⟨_, List.getElem?_eq_getElem (by simpa using hi3)⟩
  have hEbx := hEk.trans0 hEx
  have htle := hT.le
  refine wpIn_skip ?_
  refine hK46 _ _ ?_
  refine sq fun K49 hK49 => ?_
  refine wpIn_block ?_
  refine sq fun K50 hK50 => ?_
  rcases (show (az < 0 ∨ (0 ≤ az ∧ az > (tx.length : Int))) ∨ ∃ j : Nat, az = (j : Int) ∧ j ≤ tx.length by
   by_cases h1 : az < 0
   ·exact .inl (.inl h1)
   ·by_cases h2 : az > (tx.length : Int)
    ·exact .inl (.inr ⟨by omega, h2⟩)
    ·exact .inr ⟨az.toNat, by omega, by omega⟩) with (hz | hz) | ⟨j, rfl, hj⟩
  ·
   refine region_gh2 (G := World) wide_wide [.q .p, .q .p, .q (.run ((Po ab (0 + i * 1)))), .q (.ld ((Pv pb))), .q .p, .q .p, .q (.run ((Po xb (0 + i * 1)))), .q (.ld (I6 az)), .e, .q .p, .q .p, .q .p, .q .p, .q .p] [0, 0, 0, 0, 0, 0, 0, 0, 0, 1, 1, 1, 1, 1] [0, 0, 0, 0, 0, 0, 0, 0, 0, 1, 1, 1, 1, 1] [0, 0, 3, 7, 0, 0, 48, 112, 255, 511, 1023, 1023, 2047, 8191] [8] [(8, 0)] 1 (fun wc51 => ([(5, vt), (19, .slice (some ⟨ab, 0, none⟩) 3 3), (20, .slice (some ⟨tb, 0, none⟩) 3 3), (21, .slice (some ⟨xb, 0, none⟩) 3 3), (22, .slice bs L.length cp), (23, I6 ↑i), (78, .slice (some ⟨ab, 0, none⟩) 3 3), (79, I6 ↑i), (80, (Po ab (0 + i * 1))), (81, (Pv pb)), (82, .slice (some ⟨xb, 0, none⟩) 3 3), (83, I6 ↑i), (84, (Po xb (0 + i * 1))), (85, I6 az), (86, .tuple #[.pointer none, I6 3]), (77, .tuple #[.pointer none, I6 3]), (87, .pointer none), (88, I6 3), (24, .pointer none), (25, I6 3)] : Fm)) (fun wc51 => [w1.drew, wc51]) (w1.drew) (fun e wc51 => hAt [True, (Ext [] w1.drew wc51) ∧ True] e) (fun wc51 w' => [(2, [Ru Try.prog (vS (Instr.indexAt 43 (.slice (some ⟨ab, 0, none⟩) 3 3) (I6 ↑i))) ((Po ab (0 + i * 1))) w']), (3, [w'.cell? ⟨ab, 0 + i * 1, none⟩ = some ((Pv pb))]), (6, [Ru Try.prog (vS (Instr.indexAt 51 (.slice (some ⟨xb, 0, none⟩) 3 3) (I6 ↑i))) ((Po xb (0 + i * 1))) w']), (7, [w'.cell? ⟨xb, 0 + i * 1, none⟩ = some (I6 az)])]) w1.drew [5, 19, 20, 21, 22, 23] [] hS (by kernel_rfl) (by kernel_rfl) (by kernel_rfl) (by kernel_rfl) (fun wc51 _ => by kernel_rfl) (by kernel_rfl) (by kernel_rfl) (by kernel_rfl) trivial ?_ (by kernel_rfl) ?_ ?_
   ·rintro e wc51 w' hw hH
    refine (.cons ?_ (.cons ?_ (.cons ?_ (.cons ?_ .nil))))
    ·intro h1 h2
     obtain rfl : e = 0 := Nat.le_antisymm h2 h1
     have hwe : w1.drew = w' := (hw.trans (by kernel_rfl)).symm
     subst hwe
     clear hH
     exact (.cons (ix_slice (E := 24) (size := 1) (j := i) (by kernel_rfl) (by kernel_rfl) rfl (by omega)) .nil)
    ·intro h1 h2
     obtain rfl : e = 0 := Nat.le_antisymm h2 h1
     have hwe : w1.drew = w' := (hw.trans (by kernel_rfl)).symm
     subst hwe
     clear hH
     exact (.cons (((hA0.ext hEx (by simp)).drew : OwnR w1.drew 24 1 ab 3 3 (pvs [b, b, u])).cellAt _ (by rw [Nat.zero_add, Nat.mul_one]; exact pvs_at hpb)) .nil)
    ·intro h1 h2
     obtain rfl : e = 0 := Nat.le_antisymm h2 h1
     have hwe : w1.drew = w' := (hw.trans (by kernel_rfl)).symm
     subst hwe
     clear hH
     exact (.cons (ix_slice (E := 3) (size := 1) (j := i) (by kernel_rfl) (by kernel_rfl) rfl (by omega)) .nil)
    ·intro h1 h2
     obtain rfl : e = 0 := Nat.le_antisymm h2 h1
     have hwe : w1.drew = w' := (hw.trans (by kernel_rfl)).symm
     subst hwe
     clear hH
     exact (.cons (((hX0.ext hEx (by simp)).drew : OwnR w1.drew 3 1 xb 3 3 (iv [x, y, z])).cellAt _ (by rw [Nat.zero_add, Nat.mul_one]; exact iv_at haz)) .nil)
   ·refine (.cons ?eq52_8 .nil)
    ·rintro wc51 hH
     clear hH
     refine eff_gh (w1.drew) (by kernel_rfl) ?_
     refine upon_call (f := 37) (vs := [(Pv pb), I6 az]) (cap := #[]) (d := (some 86)) (by kernel_rfl) Try.call37 #[(Pv pb), I6 az] (by kernel_rfl) (Read_no' (RdRo hT.ro (hEk.trans0 (hEx.trans0 ((Ext.refl [] _).drew)))) (by omega)) ?_
     rintro _ wc51 ⟨rfl, hEc51⟩
     exact ⟨_, rfl, ⟨wc51, by kernel_rfl, by kernel_rfl, by kernel_rfl, ⟨hEc51, trivial⟩⟩⟩
   rintro wc51 a w53 hS hw54 hH
   obtain ⟨hEc51, _⟩ := hH
   replace hw54 : w53 = wc51 := hw54.trans (by kernel_rfl)
   have hB57 := OwnR.at' hw54 (((hX0.ext hEx (by simp)).drew : OwnR w1.drew 3 1 xb 3 3 (iv [x, y, z])).ext hEc51 (by simp))
   have hB58 := OwnV.at' hw54 ((hO.drew : OwnV w1.drew 76 1 (.slice bs L.length cp) L.length (L.map Rr.v)).ext hEc51 (by simp))
   have hE59 : Ext [] w30 w53 := by rw [hw54]; exact (hEx.drew).trans0 hEc51
   have hX60 : Ext [] w1 w53 := by rw [hw54]; exact ((Ext.refl _ _).drew).trans0 hEc51
   have hG61 : RA wb.heap.size w30.heap.size w53 [x, y, z] [xs, xs, ys] L := hRA.ext0 hX60
   replace hS := hS.kp [(5, vt), (19, .slice (some ⟨ab, 0, none⟩) 3 3), (20, .slice (some ⟨tb, 0, none⟩) 3 3), (21, .slice (some ⟨xb, 0, none⟩) 3 3), (22, .slice bs L.length cp), (23, I6 ↑i), (24, .pointer none), (25, I6 3)]
   refine hK50 _ _ ?_
   refine sq fun K62 hK62 => ?_
   refine region_fn2 wide_wide [.q .p, .q .p, .q (.run ((Po xb (0 + i * 1)))), .q (.ld (I6 az)), .q (.as (.bool true)), .q .p, .q .no, .q .no, .q .no, .q .no, .q .no, .q .no, .q .no, .q .no, .q .no, .q .no, .q .p, .q .p] [0, 0, 0, 0, 0, 0, 0, 0, 0, 0, 0, 0, 0, 0, 0, 0, 0, 0] [0, 0, 0, 0, 0, 0, 0, 0, 0, 0, 0, 0, 0, 0, 0, 0, 0, 0] [0, 0, 3, 7, 15, 31, 63, 63, 255, 511, 63, 63, 3135, 7231, 15423, 32767, 65535, 131071] [] 0 ([(5, vt), (19, .slice (some ⟨ab, 0, none⟩) 3 3), (20, .slice (some ⟨tb, 0, none⟩) 3 3), (21, .slice (some ⟨xb, 0, none⟩) 3 3), (22, .slice bs L.length cp), (23, I6 ↑i), (24, .pointer none), (25, I6 3), (89, .slice (some ⟨xb, 0, none⟩) 3 3), (90, I6 ↑i), (91, (Po xb (0 + i * 1))), (92, I6 az), (93, .bool true), (94, .bool true), (95, undef), (96, undef), (97, undef), (98, undef), (99, undef), (100, undef), (101, undef), (102, undef), (103, undef), (104, undef), (105, .bool true), (26, .bool true)]) [w53.drew] w53.drew (fun w' => [(2, [Ru Try.prog (vS (Instr.indexAt 51 (.slice (some ⟨xb, 0, none⟩) 3 3) (I6 ↑i))) ((Po xb (0 + i * 1))) w']), (3, [w'.cell? ⟨xb, 0 + i * 1, none⟩ = some (I6 az)]), (4, [Value.bool (decide ((az : Int) < 0)) = .bool true])]) [5, 19, 20, 21, 22, 23, 24, 25] [] hS (by kernel_rfl) (by kernel_rfl) (by kernel_rfl) (by kernel_rfl) (fun _ => by kernel_rfl) (by kernel_rfl) (by kernel_rfl) (by kernel_rfl) ?_ ?_ ?_
   ·intro e w' hw
    refine (.cons ?_ (.cons ?_ (.cons ?_ .nil)))
    ·exact fun _ _ => (.cons (ix_slice (E := 3) (size := 1) (j := i) (by kernel_rfl) (by kernel_rfl) rfl (by omega)) .nil)
    ·intro h1 h2
     obtain rfl : e = 0 := Nat.le_antisymm h2 h1
     obtain rfl : w' = w53.drew := hw.trans (by kernel_rfl)
     exact (.cons ((hB57.drew : OwnR w53.drew 3 1 xb 3 3 (iv [x, y, z])).cellAt _ (by rw [Nat.zero_add, Nat.mul_one]; exact iv_at haz)) .nil)
    ·exact fun _ _ => (.cons (as_t (by omega)) .nil)
   ·refine .nil
   rintro a w64 hS hw65
   replace hw65 : w64 = w53.drew := hw65.trans (by kernel_rfl)
   have hB69 := OwnV.at' hw65 (hB58.drew)
   have hE70 : Ext [] w30 w64 := by rw [hw65]; exact hE59.drew
   have hX71 : Ext [] w53 w64 := by rw [hw65]; exact (Ext.refl _ _).drew
   have hG72 : RA wb.heap.size w30.heap.size w64 [x, y, z] [xs, xs, ys] L := hG61.ext0 hX71
   replace hS := hS.kp [(5, vt), (19, .slice (some ⟨ab, 0, none⟩) 3 3), (20, .slice (some ⟨tb, 0, none⟩) 3 3), (21, .slice (some ⟨xb, 0, none⟩) 3 3), (22, .slice bs L.length cp), (23, I6 ↑i), (24, .pointer none), (25, I6 3), (26, .bool true)]
   refine hK62 _ _ ?_
   refine sq fun K73 hK73 => ?_
   refine sq fun K74 hK74 => ?_
   refine rgn 18 ?_
   refine sg wide_wide [.p, .p, .p, .p, .p, .p, .p, .p, .no, .no, .p, .p, .p, .p, .p, .p, .p, .p] [] [(5, vt), (19, .slice (some ⟨ab, 0, none⟩) 3 3), (20, .slice (some ⟨tb, 0, none⟩) 3 3), (21, .slice (some ⟨xb, 0, none⟩) 3 3), (22, .slice bs L.length cp), (23, I6 ↑i), (24, .pointer none), (25, I6 3), (26, .bool true), (123, .bool false)] 18 0 hS .nil fun a hS => ?_
   refine seg_end ?_
   refine hK74 _ _ ?_
   refine cond_f hS rfl ?_
   refine wpIn_skip ?_
   refine hK73 _ _ ?_
   refine rgn 5 ?_
   refine sg wide_wide [.p, .p] [] [(5, vt), (19, .slice (some ⟨ab, 0, none⟩) 3 3), (20, .slice (some ⟨tb, 0, none⟩) 3 3), (21, .slice (some ⟨xb, 0, none⟩) 3 3), (22, .slice bs L.length cp), (23, I6 ↑i), (24, .pointer none), (25, I6 3), (26, .bool true), (123, .bool false), (124, .slice bs L.length cp), (125, .pointer none)] 2 3 hS .nil fun a hS => ?_
   refine eff_new wide_wide (r := 2) (cs := #[.pointer none]) (T := 76) (v := Value.slice (some ⟨w64.heap.size, 0, none⟩) 1 1) (d := (some 126)) hS (by kernel_rfl) fun a w75 hw76 hS => ?_
   have hB84 := OwnV.at' hw76 (hB69.alloc _)
   have hX85 : Ext [] w64 w75 := by rw [hw76]; exact (Ext.refl _ _).alloc _
   have hG86 : RA wb.heap.size w30.heap.size w75 [x, y, z] [xs, xs, ys] L := hG72.ext0 hX85
   have hB87 : Blk w75 (w64.heap.size) 76 #[.pointer none] := by rw [hw76]; exact Blk.new _ _ _
   have hs88 : w30.heap.size ≤ w64.heap.size := hE70.size
   have hE89 : Ext [] w30 w75 := by rw [hw76]; exact hE70.alloc _
   refine eff_append2 wide_wide (r := 1) (d := (some 127)) (t := 75) (ty := 75) (e := 76) (size := 1) (bytes := 8) (len := L.length) (b := w64.heap.size) (off := 0) (k := 1) (c := 1) (z := #[.pointer none]) (v := Value.slice bs L.length cp) (xs := (L.map Rr.v)) [.pointer none] hS (by kernel_rfl) (by kernel_rfl) (by kernel_rfl) (by kernel_rfl) (by kernel_rfl) hB84 (by simp) (fun j u hu => by rw [Nat.zero_add]; exact hB87.cell j (by simpa using hu)) rfl (by omega) (by omega) (by omega) fun ga90 ca90 a wa90 hOa90 hEa90 hFa90 hS => ?_
   have hE95 : Ext [] w30 wa90 := hE89.trans hEa90 (fun b hb => .inr (hOn b hb))
   have hG96 : RA wb.heap.size w30.heap.size wa90 [x, y, z] [xs, xs, ys] L := hG86.app hB84 (fun b hb => Nat.le_trans hEk.size (hOn b hb)) hEa90 (by simp only [List.length_append, List.length_cons, List.length_nil]; omega) (by simp only [List.length_append, List.length_cons, List.length_nil]; omega)
   refine sg wide_wide [.p] [] [(5, vt), (19, .slice (some ⟨ab, 0, none⟩) 3 3), (20, .slice (some ⟨tb, 0, none⟩) 3 3), (21, .slice (some ⟨xb, 0, none⟩) 3 3), (22, .slice (some ⟨ga90, 0, none⟩) (L.length + 1) ca90), (23, I6 ↑i), (24, .pointer none), (25, I6 3), (26, .bool true), (123, .bool false)] 5 0 hS .nil fun a hS => ?_
   refine seg_end ?_
   refine inBlock_normal ?_
   refine hK49 _ _ ?_
   refine rgn 3 ?_
   refine sg wide_wide [.p, .as (I6 (↑i + 1)), .p] [Value.int .i64 (IntKind.i64.wrap (↑i + 1)) = I6 (↑i + 1)] [(5, vt), (19, .slice (some ⟨ab, 0, none⟩) 3 3), (20, .slice (some ⟨tb, 0, none⟩) 3 3), (21, .slice (some ⟨xb, 0, none⟩) 3 3), (22, .slice (some ⟨ga90, 0, none⟩) (L.length + 1) ca90), (23, I6 (↑i + 1)), (24, .pointer none), (25, I6 3), (26, .bool true), (123, .bool false)] 3 0 hS (.cons (as_i64 (by omega)) .nil) fun a hS => ?_
   refine seg_end ?_
   have hRn := RA.snoc (x := (⟨none, []⟩ : Rr)) hG96 (Ext.refl _ _) (by rw [hLi]; exact haz) (by rw [hLi]; exact htx) ⟨(by simp), .inl ⟨rfl, rfl, (by omega)⟩⟩ (by simp) (fun x hx => by cases hx)
   have hsl : (L ++ [(⟨none, []⟩ : Rr)]).length = L.length + 1 := by simp
   rw [← hsl] at hS
   exact ⟨(i + 1, (some ⟨ga90, 0, none⟩), ca90, L ++ [(⟨none, []⟩ : Rr)]), ⟨hS.kp [(5, vt), (19, .slice (some ⟨ab, 0, none⟩) 3 3), (20, .slice (some ⟨tb, 0, none⟩) 3 3), (21, .slice (some ⟨xb, 0, none⟩) 3 3), (22, .slice (some ⟨ga90, 0, none⟩) ((L ++ [(⟨none, []⟩ : Rr)]).length) ca90), (23, I6 (↑i + 1))], by omega, by simp; omega, by rw [hsl, List.map_append]; exact hOa90.v, (by
    intro x hx
    have hx : x = ga90 := by simpa [ob] using hx
    rw [hx]
    rcases hFa90 ga90 (by simp) with h | h
    ·exact hOn _ h
    ·exact Nat.le_trans hE89.size h), hRn, hE95⟩, by simp only; omega⟩
  ·
   refine region_gh2 (G := World) wide_wide [.q .p, .q .p, .q (.run ((Po ab (0 + i * 1)))), .q (.ld ((Pv pb))), .q .p, .q .p, .q (.run ((Po xb (0 + i * 1)))), .q (.ld (I6 az)), .e, .q .p, .q .p, .q .p, .q .p, .q .p] [0, 0, 0, 0, 0, 0, 0, 0, 0, 1, 1, 1, 1, 1] [0, 0, 0, 0, 0, 0, 0, 0, 0, 1, 1, 1, 1, 1] [0, 0, 3, 7, 0, 0, 48, 112, 255, 511, 1023, 1023, 2047, 8191] [8] [(8, 0)] 1 (fun wc97 => ([(5, vt), (19, .slice (some ⟨ab, 0, none⟩) 3 3), (20, .slice (some ⟨tb, 0, none⟩) 3 3), (21, .slice (some ⟨xb, 0, none⟩) 3 3), (22, .slice bs L.length cp), (23, I6 ↑i), (78, .slice (some ⟨ab, 0, none⟩) 3 3), (79, I6 ↑i), (80, (Po ab (0 + i * 1))), (81, (Pv pb)), (82, .slice (some ⟨xb, 0, none⟩) 3 3), (83, I6 ↑i), (84, (Po xb (0 + i * 1))), (85, I6 az), (86, .tuple #[.pointer none, I6 3]), (77, .tuple #[.pointer none, I6 3]), (87, .pointer none), (88, I6 3), (24, .pointer none), (25, I6 3)] : Fm)) (fun wc97 => [w1.drew, wc97]) (w1.drew) (fun e wc97 => hAt [True, (Ext [] w1.drew wc97) ∧ True] e) (fun wc97 w' => [(2, [Ru Try.prog (vS (Instr.indexAt 43 (.slice (some ⟨ab, 0, none⟩) 3 3) (I6 ↑i))) ((Po ab (0 + i * 1))) w']), (3, [w'.cell? ⟨ab, 0 + i * 1, none⟩ = some ((Pv pb))]), (6, [Ru Try.prog (vS (Instr.indexAt 51 (.slice (some ⟨xb, 0, none⟩) 3 3) (I6 ↑i))) ((Po xb (0 + i * 1))) w']), (7, [w'.cell? ⟨xb, 0 + i * 1, none⟩ = some (I6 az)])]) w1.drew [5, 19, 20, 21, 22, 23] [] hS (by kernel_rfl) (by kernel_rfl) (by kernel_rfl) (by kernel_rfl) (fun wc97 _ => by kernel_rfl) (by kernel_rfl) (by kernel_rfl) (by kernel_rfl) trivial ?_ (by kernel_rfl) ?_ ?_
   ·rintro e wc97 w' hw hH
    refine (.cons ?_ (.cons ?_ (.cons ?_ (.cons ?_ .nil))))
    ·intro h1 h2
     obtain rfl : e = 0 := Nat.le_antisymm h2 h1
     have hwe : w1.drew = w' := (hw.trans (by kernel_rfl)).symm
     subst hwe
     clear hH
     exact (.cons (ix_slice (E := 24) (size := 1) (j := i) (by kernel_rfl) (by kernel_rfl) rfl (by omega)) .nil)
    ·intro h1 h2
     obtain rfl : e = 0 := Nat.le_antisymm h2 h1
     have hwe : w1.drew = w' := (hw.trans (by kernel_rfl)).symm
     subst hwe
     clear hH
     exact (.cons (((hA0.ext hEx (by simp)).drew : OwnR w1.drew 24 1 ab 3 3 (pvs [b, b, u])).cellAt _ (by rw [Nat.zero_add, Nat.mul_one]; exact pvs_at hpb)) .nil)
    ·intro h1 h2
     obtain rfl : e = 0 := Nat.le_antisymm h2 h1
     have hwe : w1.drew = w' := (hw.trans (by kernel_rfl)).symm
     subst hwe
     clear hH
     exact (.cons (ix_slice (E := 3) (size := 1) (j := i) (by kernel_rfl) (by kernel_rfl) rfl (by omega)) .nil)
    ·intro h1 h2
     obtain rfl : e = 0 := Nat.le_antisymm h2 h1
     have hwe : w1.drew = w' := (hw.trans (by kernel_rfl)).symm
     subst hwe
     clear hH
     exact (.cons (((hX0.ext hEx (by simp)).drew : OwnR w1.drew 3 1 xb 3 3 (iv [x, y, z])).cellAt _ (by rw [Nat.zero_add, Nat.mul_one]; exact iv_at haz)) .nil)
   ·refine (.cons ?eq98_8 .nil)
    ·rintro wc97 hH
     clear hH
     refine eff_gh (w1.drew) (by kernel_rfl) ?_
     refine upon_call (f := 37) (vs := [(Pv pb), I6 az]) (cap := #[]) (d := (some 86)) (by kernel_rfl) Try.call37 #[(Pv pb), I6 az] (by kernel_rfl) (Read_no' (RdRo hT.ro (hEk.trans0 (hEx.trans0 ((Ext.refl [] _).drew)))) (by omega)) ?_
     rintro _ wc97 ⟨rfl, hEc97⟩
     exact ⟨_, rfl, ⟨wc97, by kernel_rfl, by kernel_rfl, by kernel_rfl, ⟨hEc97, trivial⟩⟩⟩
   rintro wc97 a w99 hS hw100 hH
   obtain ⟨hEc97, _⟩ := hH
   replace hw100 : w99 = wc97 := hw100.trans (by kernel_rfl)
   have hB102 := OwnR.at' hw100 (((hT0.ext hEx (by simp)).drew : OwnR w1.drew 23 1 tb 3 3 ([.slice qb xs.length qc, .slice qb xs.length qc, .slice qb2 ys.length qc2])).ext hEc97 (by simp))
   have hB103 := OwnR.at' hw100 (((hX0.ext hEx (by simp)).drew : OwnR w1.drew 3 1 xb 3 3 (iv [x, y, z])).ext hEc97 (by simp))
   have hB104 := OwnV.at' hw100 ((hO.drew : OwnV w1.drew 76 1 (.slice bs L.length cp) L.length (L.map Rr.v)).ext hEc97 (by simp))
   have hE105 : Ext [] w30 w99 := by rw [hw100]; exact (hEx.drew).trans0 hEc97
   have hX106 : Ext [] w1 w99 := by rw [hw100]; exact ((Ext.refl _ _).drew).trans0 hEc97
   have hG107 : RA wb.heap.size w30.heap.size w99 [x, y, z] [xs, xs, ys] L := hRA.ext0 hX106
   replace hS := hS.kp [(5, vt), (19, .slice (some ⟨ab, 0, none⟩) 3 3), (20, .slice (some ⟨tb, 0, none⟩) 3 3), (21, .slice (some ⟨xb, 0, none⟩) 3 3), (22, .slice bs L.length cp), (23, I6 ↑i), (24, .pointer none), (25, I6 3)]
   refine hK50 _ _ ?_
   refine sq fun K108 hK108 => ?_
   refine region_fn2 wide_wide [.q .p, .q .p, .q (.run ((Po xb (0 + i * 1)))), .q (.ld (I6 az)), .q (.as (.bool false)), .q .p, .q .p, .q .p, .q (.run ((Po xb (0 + i * 1)))), .q (.ld (I6 az)), .q .p, .q .p, .q (.run ((Po tb (0 + i * 1)))), .q (.ld (tv)), .q (.run (I6 ↑tx.length)), .q (.as (.bool true)), .q .p, .q .p] [0, 0, 0, 0, 0, 0, 0, 0, 0, 0, 0, 0, 0, 0, 0, 0, 0, 0] [0, 0, 0, 0, 0, 0, 0, 0, 0, 0, 0, 0, 0, 0, 0, 0, 0, 0] [0, 0, 3, 7, 15, 31, 63, 63, 255, 511, 63, 63, 3135, 7231, 15423, 32767, 65535, 131071] [] 0 ([(5, vt), (19, .slice (some ⟨ab, 0, none⟩) 3 3), (20, .slice (some ⟨tb, 0, none⟩) 3 3), (21, .slice (some ⟨xb, 0, none⟩) 3 3), (22, .slice bs L.length cp), (23, I6 ↑i), (24, .pointer none), (25, I6 3), (89, .slice (some ⟨xb, 0, none⟩) 3 3), (90, I6 ↑i), (91, (Po xb (0 + i * 1))), (92, I6 az), (93, .bool false), (94, .bool false), (95, .slice (some ⟨xb, 0, none⟩) 3 3), (96, I6 ↑i), (97, (Po xb (0 + i * 1))), (98, I6 az), (99, .slice (some ⟨tb, 0, none⟩) 3 3), (100, I6 ↑i), (101, (Po tb (0 + i * 1))), (102, tv), (103, I6 ↑tx.length), (104, .bool true), (105, .bool true), (26, .bool true)]) [w99.drew] w99.drew (fun w' => [(2, [Ru Try.prog (vS (Instr.indexAt 51 (.slice (some ⟨xb, 0, none⟩) 3 3) (I6 ↑i))) ((Po xb (0 + i * 1))) w']), (3, [w'.cell? ⟨xb, 0 + i * 1, none⟩ = some (I6 az)]), (4, [Value.bool (decide ((az : Int) < 0)) = .bool false]), (8, [Ru Try.prog (vS (Instr.indexAt 51 (.slice (some ⟨xb, 0, none⟩) 3 3) (I6 ↑i))) ((Po xb (0 + i * 1))) w']), (9, [w'.cell? ⟨xb, 0 + i * 1, none⟩ = some (I6 az)]), (12, [Ru Try.prog (vS (Instr.indexAt 71 (.slice (some ⟨tb, 0, none⟩) 3 3) (I6 ↑i))) ((Po tb (0 + i * 1))) w']), (13, [w'.cell? ⟨tb, 0 + i * 1, none⟩ = some (tv)]), (14, [Ru Try.prog (vS (Builtin.len_ #[23] 3 #[tv])) (I6 ↑tx.length) w']), (15, [Value.bool (decide ((az : Int) > ↑tx.length)) = .bool true])]) [5, 19, 20, 21, 22, 23, 24, 25] [] hS (by kernel_rfl) (by kernel_rfl) (by kernel_rfl) (by kernel_rfl) (fun _ => by kernel_rfl) (by kernel_rfl) (by kernel_rfl) (by kernel_rfl) ?_ ?_ ?_
   ·intro e w' hw
    refine (.cons ?_ (.cons ?_ (.cons ?_ (.cons ?_ (.cons ?_ (.cons ?_ (.cons ?_ (.cons ?_ (.cons ?_ .nil)))))))))
    ·exact fun _ _ => (.cons (ix_slice (E := 3) (size := 1) (j := i) (by kernel_rfl) (by kernel_rfl) rfl (by omega)) .nil)
    ·intro h1 h2
     obtain rfl : e = 0 := Nat.le_antisymm h2 h1
     obtain rfl : w' = w99.drew := hw.trans (by kernel_rfl)
     exact (.cons ((hB103.drew : OwnR w99.drew 3 1 xb 3 3 (iv [x, y, z])).cellAt _ (by rw [Nat.zero_add, Nat.mul_one]; exact iv_at haz)) .nil)
    ·exact fun _ _ => (.cons (as_f (by omega)) .nil)
    ·exact fun _ _ => (.cons (ix_slice (E := 3) (size := 1) (j := i) (by kernel_rfl) (by kernel_rfl) rfl (by omega)) .nil)
    ·intro h1 h2
     obtain rfl : e = 0 := Nat.le_antisymm h2 h1
     obtain rfl : w' = w99.drew := hw.trans (by kernel_rfl)
     exact (.cons ((hB103.drew : OwnR w99.drew 3 1 xb 3 3 (iv [x, y, z])).cellAt _ (by rw [Nat.zero_add, Nat.mul_one]; exact iv_at haz)) .nil)
    ·exact fun _ _ => (.cons (ix_slice (E := 23) (size := 1) (j := i) (by kernel_rfl) (by kernel_rfl) rfl (by omega)) .nil)
    ·intro h1 h2
     obtain rfl : e = 0 := Nat.le_antisymm h2 h1
     obtain rfl : w' = w99.drew := hw.trans (by kernel_rfl)
     exact (.cons ((hB102.drew : OwnR w99.drew 23 1 tb 3 3 ([.slice qb xs.length qc, .slice qb xs.length qc, .slice qb2 ys.length qc2])).cellAt _ (by simpa using htv)) .nil)
    ·exact fun _ _ => (.cons (run_len_rd (e := 5) hT.rd (by kernel_rfl)) .nil)
    ·exact fun _ _ => (.cons (as_t (by omega)) .nil)
   ·refine .nil
   rintro a w110 hS hw111
   replace hw111 : w110 = w99.drew := hw111.trans (by kernel_rfl)
   have hB115 := OwnV.at' hw111 (hB104.drew)
   have hE116 : Ext [] w30 w110 := by rw [hw111]; exact hE105.drew
   have hX117 : Ext [] w99 w110 := by rw [hw111]; exact (Ext.refl _ _).drew
   have hG118 : RA wb.heap.size w30.heap.size w110 [x, y, z] [xs, xs, ys] L := hG107.ext0 hX117
   replace hS := hS.kp [(5, vt), (19, .slice (some ⟨ab, 0, none⟩) 3 3), (20, .slice (some ⟨tb, 0, none⟩) 3 3), (21, .slice (some ⟨xb, 0, none⟩) 3 3), (22, .slice bs L.length cp), (23, I6 ↑i), (24, .pointer none), (25, I6 3), (26, .bool true)]
   refine hK108 _ _ ?_
   refine sq fun K119 hK119 => ?_
   refine sq fun K120 hK120 => ?_
   refine rgn 18 ?_
   refine sg wide_wide [.p, .p, .p, .p, .p, .p, .p, .p, .no, .no, .p, .p, .p, .p, .p, .p, .p, .p] [] [(5, vt), (19, .slice (some ⟨ab, 0, none⟩) 3 3), (20, .slice (some ⟨tb, 0, none⟩) 3 3), (21, .slice (some ⟨xb, 0, none⟩) 3 3), (22, .slice bs L.length cp), (23, I6 ↑i), (24, .pointer none), (25, I6 3), (26, .bool true), (123, .bool false)] 18 0 hS .nil fun a hS => ?_
   refine seg_end ?_
   refine hK120 _ _ ?_
   refine cond_f hS rfl ?_
   refine wpIn_skip ?_
   refine hK119 _ _ ?_
   refine rgn 5 ?_
   refine sg wide_wide [.p, .p] [] [(5, vt), (19, .slice (some ⟨ab, 0, none⟩) 3 3), (20, .slice (some ⟨tb, 0, none⟩) 3 3), (21, .slice (some ⟨xb, 0, none⟩) 3 3), (22, .slice bs L.length cp), (23, I6 ↑i), (24, .pointer none), (25, I6 3), (26, .bool true), (123, .bool false), (124, .slice bs L.length cp), (125, .pointer none)] 2 3 hS .nil fun a hS => ?_
   refine eff_new wide_wide (r := 2) (cs := #[.pointer none]) (T := 76) (v := Value.slice (some ⟨w110.heap.size, 0, none⟩) 1 1) (d := (some 126)) hS (by kernel_rfl) fun a w121 hw122 hS => ?_
   have hB130 := OwnV.at' hw122 (hB115.alloc _)
   have hX131 : Ext [] w110 w121 := by rw [hw122]; exact (Ext.refl _ _).alloc _
   have hG132 : RA wb.heap.size w30.heap.size w121 [x, y, z] [xs, xs, ys] L := hG118.ext0 hX131
   have hB133 : Blk w121 (w110.heap.size) 76 #[.pointer none] := by rw [hw122]; exact Blk.new _ _ _
   have hs134 : w30.heap.size ≤ w110.heap.size := hE116.size
   have hE135 : Ext [] w30 w121 := by rw [hw122]; exact hE116.alloc _
   refine eff_append2 wide_wide (r := 1) (d := (some 127)) (t := 75) (ty := 75) (e := 76) (size := 1) (bytes := 8) (len := L.length) (b := w110.heap.size) (off := 0) (k := 1) (c := 1) (z := #[.pointer none]) (v := Value.slice bs L.length cp) (xs := (L.map Rr.v)) [.pointer none] hS (by kernel_rfl) (by kernel_rfl) (by kernel_rfl) (by kernel_rfl) (by kernel_rfl) hB130 (by simp) (fun j u hu => by rw [Nat.zero_add]; exact hB133.cell j (by simpa using hu)) rfl (by omega) (by omega) (by omega) fun ga136 ca136 a wa136 hOa136 hEa136 hFa136 hS => ?_
   have hE141 : Ext [] w30 wa136 := hE135.trans hEa136 (fun b hb => .inr (hOn b hb))
   have hG142 : RA wb.heap.size w30.heap.size wa136 [x, y, z] [xs, xs, ys] L := hG132.app hB130 (fun b hb => Nat.le_trans hEk.size (hOn b hb)) hEa136 (by simp only [List.length_append, List.length_cons, List.length_nil]; omega) (by simp only [List.length_append, List.length_cons, List.length_nil]; omega)
   refine sg wide_wide [.p] [] [(5, vt), (19, .slice (some ⟨ab, 0, none⟩) 3 3), (20, .slice (some ⟨tb, 0, none⟩) 3 3), (21, .slice (some ⟨xb, 0, none⟩) 3 3), (22, .slice (some ⟨ga136, 0, none⟩) (L.length + 1) ca136), (23, I6 ↑i), (24, .pointer none), (25, I6 3), (26, .bool true), (123, .bool false)] 5 0 hS .nil fun a hS => ?_
   refine seg_end ?_
   refine inBlock_normal ?_
   refine hK49 _ _ ?_
   refine rgn 3 ?_
   refine sg wide_wide [.p, .as (I6 (↑i + 1)), .p] [Value.int .i64 (IntKind.i64.wrap (↑i + 1)) = I6 (↑i + 1)] [(5, vt), (19, .slice (some ⟨ab, 0, none⟩) 3 3), (20, .slice (some ⟨tb, 0, none⟩) 3 3), (21, .slice (some ⟨xb, 0, none⟩) 3 3), (22, .slice (some ⟨ga136, 0, none⟩) (L.length + 1) ca136), (23, I6 (↑i + 1)), (24, .pointer none), (25, I6 3), (26, .bool true), (123, .bool false)] 3 0 hS (.cons (as_i64 (by omega)) .nil) fun a hS => ?_
   refine seg_end ?_
   have hRn := RA.snoc (x := (⟨none, []⟩ : Rr)) hG142 (Ext.refl _ _) (by rw [hLi]; exact haz) (by rw [hLi]; exact htx) ⟨(by simp), .inl ⟨rfl, rfl, (by omega)⟩⟩ (by simp) (fun x hx => by cases hx)
   have hsl : (L ++ [(⟨none, []⟩ : Rr)]).length = L.length + 1 := by simp
   rw [← hsl] at hS
   exact ⟨(i + 1, (some ⟨ga136, 0, none⟩), ca136, L ++ [(⟨none, []⟩ : Rr)]), ⟨hS.kp [(5, vt), (19, .slice (some ⟨ab, 0, none⟩) 3 3), (20, .slice (some ⟨tb, 0, none⟩) 3 3), (21, .slice (some ⟨xb, 0, none⟩) 3 3), (22, .slice (some ⟨ga136, 0, none⟩) ((L ++ [(⟨none, []⟩ : Rr)]).length) ca136), (23, I6 (↑i + 1))], by omega, by simp; omega, by rw [hsl, List.map_append]; exact hOa136.v, (by
    intro x hx
    have hx : x = ga136 := by simpa [ob] using hx
    rw [hx]
    rcases hFa136 ga136 (by simp) with h | h
    ·exact hOn _ h
    ·exact Nat.le_trans hE135.size h), hRn, hE141⟩, by simp only; omega⟩
  ·
   refine region_gh2 (G := Nat × (List Nat) × World) wide_wide [.q .p, .q .p, .q (.run ((Po ab (0 + i * 1)))), .q (.ld ((Pv pb))), .q .p, .q .p, .q (.run ((Po xb (0 + i * 1)))), .q (.ld (I6 ↑j)), .e, .q .p, .q .p, .q .p, .q .p, .q .p] [0, 0, 0, 0, 0, 0, 0, 0, 0, 1, 1, 1, 1, 1] [0, 0, 0, 0, 0, 0, 0, 0, 0, 1, 1, 1, 1, 1] [0, 0, 3, 7, 0, 0, 48, 112, 255, 511, 1023, 1023, 2047, 8191] [8] [(8, 0)] 1 (fun ⟨r143, B143, wc143⟩ => ([(5, vt), (19, .slice (some ⟨ab, 0, none⟩) 3 3), (20, .slice (some ⟨tb, 0, none⟩) 3 3), (21, .slice (some ⟨xb, 0, none⟩) 3 3), (22, .slice bs L.length cp), (23, I6 ↑i), (78, .slice (some ⟨ab, 0, none⟩) 3 3), (79, I6 ↑i), (80, (Po ab (0 + i * 1))), (81, (Pv pb)), (82, .slice (some ⟨xb, 0, none⟩) 3 3), (83, I6 ↑i), (84, (Po xb (0 + i * 1))), (85, I6 ↑j), (86, .tuple #[(Pv r143), I6 0]), (77, .tuple #[(Pv r143), I6 0]), (87, (Pv r143)), (88, I6 0), (24, (Pv r143)), (25, I6 0)] : Fm)) (fun ⟨r143, B143, wc143⟩ => [w1.drew, wc143]) (w1.drew) (fun e ⟨r143, B143, wc143⟩ => hAt [True, (Rdr wb.heap.size wc143 r143 B143 j (tx.drop j)) ∧ (∀ x ∈ B143, (w1.drew).heap.size ≤ x) ∧ (Ext [] w1.drew wc143) ∧ True] e) (fun ⟨r143, B143, wc143⟩ w' => [(2, [Ru Try.prog (vS (Instr.indexAt 43 (.slice (some ⟨ab, 0, none⟩) 3 3) (I6 ↑i))) ((Po ab (0 + i * 1))) w']), (3, [w'.cell? ⟨ab, 0 + i * 1, none⟩ = some ((Pv pb))]), (6, [Ru Try.prog (vS (Instr.indexAt 51 (.slice (some ⟨xb, 0, none⟩) 3 3) (I6 ↑i))) ((Po xb (0 + i * 1))) w']), (7, [w'.cell? ⟨xb, 0 + i * 1, none⟩ = some (I6 ↑j)])]) (0, ([]), w1.drew) [5, 19, 20, 21, 22, 23] [] hS (by kernel_rfl) (by kernel_rfl) (by kernel_rfl) (by kernel_rfl) (fun ⟨r143, B143, wc143⟩ _ => by kernel_rfl) (by kernel_rfl) (by kernel_rfl) (by kernel_rfl) trivial ?_ (by kernel_rfl) ?_ ?_
   ·rintro e ⟨r143, B143, wc143⟩ w' hw hH
    refine (.cons ?_ (.cons ?_ (.cons ?_ (.cons ?_ .nil))))
    ·intro h1 h2
     obtain rfl : e = 0 := Nat.le_antisymm h2 h1
     have hwe : w1.drew = w' := (hw.trans (by kernel_rfl)).symm
     subst hwe
     clear hH
     exact (.cons (ix_slice (E := 24) (size := 1) (j := i) (by kernel_rfl) (by kernel_rfl) rfl (by omega)) .nil)
    ·intro h1 h2
     obtain rfl : e = 0 := Nat.le_antisymm h2 h1
     have hwe : w1.drew = w' := (hw.trans (by kernel_rfl)).symm
     subst hwe
     clear hH
     exact (.cons (((hA0.ext hEx (by simp)).drew : OwnR w1.drew 24 1 ab 3 3 (pvs [b, b, u])).cellAt _ (by rw [Nat.zero_add, Nat.mul_one]; exact pvs_at hpb)) .nil)
    ·intro h1 h2
     obtain rfl : e = 0 := Nat.le_antisymm h2 h1
     have hwe : w1.drew = w' := (hw.trans (by kernel_rfl)).symm
     subst hwe
     clear hH
     exact (.cons (ix_slice (E := 3) (size := 1) (j := i) (by kernel_rfl) (by kernel_rfl) rfl (by omega)) .nil)
    ·intro h1 h2
     obtain rfl : e = 0 := Nat.le_antisymm h2 h1
     have hwe : w1.drew = w' := (hw.trans (by kernel_rfl)).symm
     subst hwe
     clear hH
     exact (.cons (((hX0.ext hEx (by simp)).drew : OwnR w1.drew 3 1 xb 3 3 (iv [x, y, z])).cellAt _ (by rw [Nat.zero_add, Nat.mul_one]; exact iv_at haz)) .nil)
   ·refine (.cons ?eq144_8 .nil)
    ·rintro ⟨r143, B143, wc143⟩ hH
     clear hH
     refine eff_gh (w1.drew) (by kernel_rfl) ?_
     refine upon_call (f := 37) (vs := [(Pv pb), I6 ↑j]) (cap := #[]) (d := (some 86)) (by kernel_rfl) Try.call37 #[(Pv pb), I6 ↑j] (by kernel_rfl) (Read_ok' hT.ro (hEk.trans0 (hEx.trans0 ((Ext.refl [] _).drew))) hj) ?_
     rintro _ wc143 ⟨r143, B143, rfl, hRd143, hRB143, hEc143⟩
     exact ⟨_, rfl, ⟨(r143, B143, wc143), by kernel_rfl, by kernel_rfl, by kernel_rfl, ⟨hRd143, hRB143, hEc143, trivial⟩⟩⟩
   rintro ⟨r143, B143, wc143⟩ a w145 hS hw146 hH
   obtain ⟨hRd143, hRB143, hEc143, _⟩ := hH
   replace hw146 : w145 = wc143 := hw146.trans (by kernel_rfl)
   have hB148 := OwnR.at' hw146 (((hT0.ext hEx (by simp)).drew : OwnR w1.drew 23 1 tb 3 3 ([.slice qb xs.length qc, .slice qb xs.length qc, .slice qb2 ys.length qc2])).ext hEc143 (by simp))
   have hB149 := OwnR.at' hw146 (((hX0.ext hEx (by simp)).drew : OwnR w1.drew 3 1 xb 3 3 (iv [x, y, z])).ext hEc143 (by simp))
   have hB150 := OwnV.at' hw146 ((hO.drew : OwnV w1.drew 76 1 (.slice bs L.length cp) L.length (L.map Rr.v)).ext hEc143 (by simp))
   have hE151 : Ext [] w30 w145 := by rw [hw146]; exact (hEx.drew).trans0 hEc143
   have hX152 : Ext [] w1 w145 := by rw [hw146]; exact ((Ext.refl _ _).drew).trans0 hEc143
   have hG153 : RA wb.heap.size w30.heap.size w145 [x, y, z] [xs, xs, ys] L := hRA.ext0 hX152
   replace hS := hS.kp [(5, vt), (19, .slice (some ⟨ab, 0, none⟩) 3 3), (20, .slice (some ⟨tb, 0, none⟩) 3 3), (21, .slice (some ⟨xb, 0, none⟩) 3 3), (22, .slice bs L.length cp), (23, I6 ↑i), (24, (Pv r143)), (25, I6 0)]
   refine hK50 _ _ ?_
   refine sq fun K154 hK154 => ?_
   have hRd9 : Rdr wb.heap.size w145 r143 B143 j (tx.drop j) := by rw [hw146]; exact hRd143
   have hBK : ∀ x ∈ B143, w30.heap.size ≤ x := fun x hx => Nat.le_trans hEx.size (hRB143 x hx)
   have hRn9 := RA.snoc hRA (x := ⟨some r143, B143⟩) (show Ext [] w1 w145 by rw [hw146]; exact ((Ext.refl _ _).drew.trans0 hEc143)) (by rw [hLi]; exact haz) (by rw [hLi]; exact htx) (hRd9.lower hBK tx rfl hj) hRB143 hRd9.lie
   refine region_fn2 wide_wide [.q .p, .q .p, .q (.run ((Po xb (0 + i * 1)))), .q (.ld (I6 ↑j)), .q (.as (.bool false)), .q .p, .q .p, .q .p, .q (.run ((Po xb (0 + i * 1)))), .q (.ld (I6 ↑j)), .q .p, .q .p, .q (.run ((Po tb (0 + i * 1)))), .q (.ld (tv)), .q (.run (I6 ↑tx.length)), .q (.as (.bool false)), .q .p, .q .p] [0, 0, 0, 0, 0, 0, 0, 0, 0, 0, 0, 0, 0, 0, 0, 0, 0, 0] [0, 0, 0, 0, 0, 0, 0, 0, 0, 0, 0, 0, 0, 0, 0, 0, 0, 0] [0, 0, 3, 7, 15, 31, 63, 63, 255, 511, 63, 63, 3135, 7231, 15423, 32767, 65535, 131071] [] 0 ([(5, vt), (19, .slice (some ⟨ab, 0, none⟩) 3 3), (20, .slice (some ⟨tb, 0, none⟩) 3 3), (21, .slice (some ⟨xb, 0, none⟩) 3 3), (22, .slice bs L.length cp), (23, I6 ↑i), (24, (Pv r143)), (25, I6 0), (89, .slice (some ⟨xb, 0, none⟩) 3 3), (90, I6 ↑i), (91, (Po xb (0 + i * 1))), (92, I6 ↑j), (93, .bool false), (94, .bool false), (95, .slice (some ⟨xb, 0, none⟩) 3 3), (96, I6 ↑i), (97, (Po xb (0 + i * 1))), (98, I6 ↑j), (99, .slice (some ⟨tb, 0, none⟩) 3 3), (100, I6 ↑i), (101, (Po tb (0 + i * 1))), (102, tv), (103, I6 ↑tx.length), (104, .bool false), (105, .bool false), (26, .bool false)]) [w145.drew] w145.drew (fun w' => [(2, [Ru Try.prog (vS (Instr.indexAt 51 (.slice (some ⟨xb, 0, none⟩) 3 3) (I6 ↑i))) ((Po xb (0 + i * 1))) w']), (3, [w'.cell? ⟨xb, 0 + i * 1, none⟩ = some (I6 ↑j)]), (4, [Value.bool (decide ((↑j : Int) < 0)) = .bool false]), (8, [Ru Try.prog (vS (Instr.indexAt 51 (.slice (some ⟨xb, 0, none⟩) 3 3) (I6 ↑i))) ((Po xb (0 + i * 1))) w']), (9, [w'.cell? ⟨xb, 0 + i * 1, none⟩ = some (I6 ↑j)]), (12, [Ru Try.prog (vS (Instr.indexAt 71 (.slice (some ⟨tb, 0, none⟩) 3 3) (I6 ↑i))) ((Po tb (0 + i * 1))) w']), (13, [w'.cell? ⟨tb, 0 + i * 1, none⟩ = some (tv)]), (14, [Ru Try.prog (vS (Builtin.len_ #[23] 3 #[tv])) (I6 ↑tx.length) w']), (15, [Value.bool (decide ((↑j : Int) > ↑tx.length)) = .bool false])]) [5, 19, 20, 21, 22, 23, 24, 25] [] hS (by kernel_rfl) (by kernel_rfl) (by kernel_rfl) (by kernel_rfl) (fun _ => by kernel_rfl) (by kernel_rfl) (by kernel_rfl) (by kernel_rfl) ?_ ?_ ?_
   ·intro e w' hw
    refine (.cons ?_ (.cons ?_ (.cons ?_ (.cons ?_ (.cons ?_ (.cons ?_ (.cons ?_ (.cons ?_ (.cons ?_ .nil)))))))))
    ·exact fun _ _ => (.cons (ix_slice (E := 3) (size := 1) (j := i) (by kernel_rfl) (by kernel_rfl) rfl (by omega)) .nil)
    ·intro h1 h2
     obtain rfl : e = 0 := Nat.le_antisymm h2 h1
     obtain rfl : w' = w145.drew := hw.trans (by kernel_rfl)
     exact (.cons ((hB149.drew : OwnR w145.drew 3 1 xb 3 3 (iv [x, y, z])).cellAt _ (by rw [Nat.zero_add, Nat.mul_one]; exact iv_at haz)) .nil)
    ·exact fun _ _ => (.cons (as_f (by omega)) .nil)
    ·exact fun _ _ => (.cons (ix_slice (E := 3) (size := 1) (j := i) (by kernel_rfl) (by kernel_rfl) rfl (by omega)) .nil)
    ·intro h1 h2
     obtain rfl : e = 0 := Nat.le_antisymm h2 h1
     obtain rfl : w' = w145.drew := hw.trans (by kernel_rfl)
     exact (.cons ((hB149.drew : OwnR w145.drew 3 1 xb 3 3 (iv [x, y, z])).cellAt _ (by rw [Nat.zero_add, Nat.mul_one]; exact iv_at haz)) .nil)
    ·exact fun _ _ => (.cons (ix_slice (E := 23) (size := 1) (j := i) (by kernel_rfl) (by kernel_rfl) rfl (by omega)) .nil)
    ·intro h1 h2
     obtain rfl : e = 0 := Nat.le_antisymm h2 h1
     obtain rfl : w' = w145.drew := hw.trans (by kernel_rfl)
     exact (.cons ((hB148.drew : OwnR w145.drew 23 1 tb 3 3 ([.slice qb xs.length qc, .slice qb xs.length qc, .slice qb2 ys.length qc2])).cellAt _ (by simpa using htv)) .nil)
    ·exact fun _ _ => (.cons (run_len_rd (e := 5) hT.rd (by kernel_rfl)) .nil)
    ·exact fun _ _ => (.cons (as_f (by omega)) .nil)
   ·refine .nil
   rintro a w156 hS hw157
   replace hw157 : w156 = w145.drew := hw157.trans (by kernel_rfl)
   have hB161 := OwnV.at' hw157 (hB150.drew)
   have hE162 : Ext [] w30 w156 := by rw [hw157]; exact hE151.drew
   have hX163 : Ext [] w145 w156 := by rw [hw157]; exact (Ext.refl _ _).drew
   have hG164 : RA wb.heap.size w30.heap.size w156 [x, y, z] [xs, xs, ys] (L ++ [⟨some r143, B143⟩]) := hRn9.ext0 hX163
   replace hS := hS.kp [(5, vt), (19, .slice (some ⟨ab, 0, none⟩) 3 3), (20, .slice (some ⟨tb, 0, none⟩) 3 3), (21, .slice (some ⟨xb, 0, none⟩) 3 3), (22, .slice bs L.length cp), (23, I6 ↑i), (24, (Pv r143)), (25, I6 0), (26, .bool false)]
   refine hK154 _ _ ?_
   refine sq fun K165 hK165 => ?_
   refine sq fun K166 hK166 => ?_
   refine rgn 18 ?_
   refine sg wide_wide [.p, .p, .p, .p, .p, .p, .p, .p, .p, .p, .p, .p, .p, .p, .p, .p, .p, .p] [] [(5, vt), (19, .slice (some ⟨ab, 0, none⟩) 3 3), (20, .slice (some ⟨tb, 0, none⟩) 3 3), (21, .slice (some ⟨xb, 0, none⟩) 3 3), (22, .slice bs L.length cp), (23, I6 ↑i), (24, (Pv r143)), (25, I6 0), (26, .bool false), (123, .bool false)] 18 0 hS .nil fun a hS => ?_
   refine seg_end ?_
   refine hK166 _ _ ?_
   refine cond_f hS rfl ?_
   refine wpIn_skip ?_
   refine hK165 _ _ ?_
   refine rgn 5 ?_
   refine sg wide_wide [.p, .p] [] [(5, vt), (19, .slice (some ⟨ab, 0, none⟩) 3 3), (20, .slice (some ⟨tb, 0, none⟩) 3 3), (21, .slice (some ⟨xb, 0, none⟩) 3 3), (22, .slice bs L.length cp), (23, I6 ↑i), (24, (Pv r143)), (25, I6 0), (26, .bool false), (123, .bool false), (124, .slice bs L.length cp), (125, (Pv r143))] 2 3 hS .nil fun a hS => ?_
   refine eff_new wide_wide (r := 2) (cs := #[(Pv r143)]) (T := 76) (v := Value.slice (some ⟨w156.heap.size, 0, none⟩) 1 1) (d := (some 126)) hS (by kernel_rfl) fun a w167 hw168 hS => ?_
   have hB176 := OwnV.at' hw168 (hB161.alloc _)
   have hX177 : Ext [] w156 w167 := by rw [hw168]; exact (Ext.refl _ _).alloc _
   have hG178 : RA wb.heap.size w30.heap.size w167 [x, y, z] [xs, xs, ys] (L ++ [⟨some r143, B143⟩]) := hG164.ext0 hX177
   have hB179 : Blk w167 (w156.heap.size) 76 #[(Pv r143)] := by rw [hw168]; exact Blk.new _ _ _
   have hs180 : w30.heap.size ≤ w156.heap.size := hE162.size
   have hE181 : Ext [] w30 w167 := by rw [hw168]; exact hE162.alloc _
   refine eff_append2 wide_wide (r := 1) (d := (some 127)) (t := 75) (ty := 75) (e := 76) (size := 1) (bytes := 8) (len := L.length) (b := w156.heap.size) (off := 0) (k := 1) (c := 1) (z := #[.pointer none]) (v := Value.slice bs L.length cp) (xs := (L.map Rr.v)) [(Pv r143)] hS (by kernel_rfl) (by kernel_rfl) (by kernel_rfl) (by kernel_rfl) (by kernel_rfl) hB176 (by simp) (fun j u hu => by rw [Nat.zero_add]; exact hB179.cell j (by simpa using hu)) rfl (by omega) (by omega) (by omega) fun ga182 ca182 a wa182 hOa182 hEa182 hFa182 hS => ?_
   have hE187 : Ext [] w30 wa182 := hE181.trans hEa182 (fun b hb => .inr (hOn b hb))
   have hG188 : RA wb.heap.size w30.heap.size wa182 [x, y, z] [xs, xs, ys] (L ++ [⟨some r143, B143⟩]) := hG178.app hB176 (fun b hb => Nat.le_trans hEk.size (hOn b hb)) hEa182 (by simp only [List.length_append, List.length_cons, List.length_nil]; omega) (by simp only [List.length_append, List.length_cons, List.length_nil]; omega)
   refine sg wide_wide [.p] [] [(5, vt), (19, .slice (some ⟨ab, 0, none⟩) 3 3), (20, .slice (some ⟨tb, 0, none⟩) 3 3), (21, .slice (some ⟨xb, 0, none⟩) 3 3), (22, .slice (some ⟨ga182, 0, none⟩) (L.length + 1) ca182), (23, I6 ↑i), (24, (Pv r143)), (25, I6 0), (26, .bool false), (123, .bool false)] 5 0 hS .nil fun a hS => ?_
   refine seg_end ?_
   refine inBlock_normal ?_
   refine hK49 _ _ ?_
   refine rgn 3 ?_
   refine sg wide_wide [.p, .as (I6 (↑i + 1)), .p] [Value.int .i64 (IntKind.i64.wrap (↑i + 1)) = I6 (↑i + 1)] [(5, vt), (19, .slice (some ⟨ab, 0, none⟩) 3 3), (20, .slice (some ⟨tb, 0, none⟩) 3 3), (21, .slice (some ⟨xb, 0, none⟩) 3 3), (22, .slice (some ⟨ga182, 0, none⟩) (L.length + 1) ca182), (23, I6 (↑i + 1)), (24, (Pv r143)), (25, I6 0), (26, .bool false), (123, .bool false)] 3 0 hS (.cons (as_i64 (by omega)) .nil) fun a hS => ?_
   refine seg_end ?_
   have hRn := hG188
   have hsl : (L ++ [(⟨some r143, B143⟩ : Rr)]).length = L.length + 1 := by simp
   rw [← hsl] at hS
   exact ⟨(i + 1, (some ⟨ga182, 0, none⟩), ca182, L ++ [(⟨some r143, B143⟩ : Rr)]), ⟨hS.kp [(5, vt), (19, .slice (some ⟨ab, 0, none⟩) 3 3), (20, .slice (some ⟨tb, 0, none⟩) 3 3), (21, .slice (some ⟨xb, 0, none⟩) 3 3), (22, .slice (some ⟨ga182, 0, none⟩) ((L ++ [(⟨some r143, B143⟩ : Rr)]).length) ca182), (23, I6 (↑i + 1))], by omega, by simp; omega, by rw [hsl, List.map_append]; exact hOa182.v, (by
    intro x hx
    have hx : x = ga182 := by simpa [ob] using hx
    rw [hx]
    rcases hFa182 ga182 (by simp) with h | h
    ·exact hOn _ h
    ·exact Nat.le_trans hE181.size h), hRn, hE187⟩, by simp only; omega⟩
 ·
  replace hb48 := of_decide_eq_false hb48
  obtain rfl : i = 3 := by omega
  refine wpIn_exit ?_
  refine then_exit ?_
  refine then_exit ?_
  refine inBlock_hit ?_
  refine hK44 _ _ ?_
  refine sq fun K189 hK189 => ?_
  refine sq fun K190 hK190 => ?_
  refine rgn 1 ?_
  refine sg wide_wide [.p] [] [(5, vt), (19, .slice (some ⟨ab, 0, none⟩) 3 3), (20, .slice (some ⟨tb, 0, none⟩) 3 3), (21, .slice (some ⟨xb, 0, none⟩) 3 3), (22, .slice bs L.length cp), (27, I6 0)] 1 0 hS .nil fun a hS => ?_
  refine seg_end ?_
  refine hK190 _ _ ?_
  refine wpIn_block ?_
  have hEb0 := hEk.trans0 hEx
  rw [hLi] at hS hO hOn
  have hKs := hEk.size
  have htb : RdV wb 1 vt m (iv ts) := ht.ext0 hEw
  refine loop_ghost (fun ((i, ats, L) : Nat × List Int × List Rr) a' w' => St 218 [] [(5, vt), (20, .slice (some ⟨tb, 0, none⟩) 3 3), (21, .slice (some ⟨xb, 0, none⟩) 3 3), (22, .slice bs 3 cp), (27, I6 ↑i)] a' ∧ i ≤ m ∧ L.length = 3 ∧ ats.length = 3 ∧ OwnR w' 23 1 tb 3 3 [.slice qb xs.length qc, .slice qb xs.length qc, .slice qb2 ys.length qc2] ∧ OwnR w' 3 1 xb 3 3 (iv ats) ∧ OwnV w' 76 1 (.slice bs 3 cp) 3 (L.map Rr.v) ∧ RA wb.heap.size w30.heap.size w' ats [xs, xs, ys] L ∧ Ext [] wb w') (fun ((i, ats, L) : Nat × List Int × List Rr) => m - i) (0, [x, y, z], L) ⟨hS.keepTo [5, 20, 21, 22, 27] (by kernel_rfl), Nat.zero_le _, hLi, rfl, (hT0.ext hEx (by simp)), (hX0.ext hEx (by simp)), hO, hRA, hEb0⟩ ?_
  rintro ⟨i, ats, L⟩ a w2 ⟨hS, him, hL3, ha3, hT2, hX2, hO2, hRA2, hEb⟩
  refine sq fun K191 hK191 => ?_
  refine sq fun K192 hK192 => ?_
  refine rgn 4 ?_
  refine sg wide_wide [.p, .p, .run (I6 ↑m), .p] [Ru Try.prog (vS (Builtin.len_ #[51] 3 #[vt])) (I6 ↑m) w2] [(5, vt), (20, .slice (some ⟨tb, 0, none⟩) 3 3), (21, .slice (some ⟨xb, 0, none⟩) 3 3), (22, .slice bs 3 cp), (27, I6 ↑i), (131, .bool (decide ((↑i : Int) < ↑m)))] 4 0 hS (.cons (run_len_rd (e := 3) ht (by kernel_rfl)) .nil) fun a hS => ?_
  refine seg_end ?_
  refine hK192 _ _ ?_
  refine cond_b hS rfl (fun hb193 => ?_) (fun hb193 => ?_)
  ·
   replace hb193 := of_decide_eq_true hb193
   have him : i < m := by omega
   obtain ⟨tz, htz⟩ : ∃ tz, ts[i]? = some tz := ⟨_, List.getElem?_eq_getElem (by omega)⟩
   have htzm := htm tz (List.mem_of_getElem? htz)
   obtain ⟨k, hk, hk3⟩ : ∃ k : Nat, rnd tz 3 = (k : Int) ∧ k < 3 := ⟨(rnd tz 3).toNat, by have := rnd_bd tz (n := 3) (by omega); omega, by have := rnd_bd tz (n := 3) (by omega); omega⟩
   obtain ⟨nn, hnn, hnn5⟩ : ∃ k : Nat, rnd (tz.tdiv 3) 50 = (k : Int) ∧ k < 50 := ⟨(rnd (tz.tdiv 3) 50).toNat, by have := rnd_bd (tz.tdiv 3) (n := 50) (by omega); omega, by have := rnd_bd (tz.tdiv 3) (n := 50) (by omega); omega⟩
   obtain ⟨pb, tv, tx, hpb, htv, htx, hT⟩ := tri hb' hu' hq'.2.1 hq2.2.1 hx1 hy1 hk3
   have htle := hT.le
   refine wpIn_skip ?_
   refine hK191 _ _ ?_
   refine sq fun K194 hK194 => ?_
   refine wpIn_block ?_
   refine sq fun K195 hK195 => ?_
   refine rgn 6 ?_
   refine sg wide_wide [.p, .p, .run ((Po (bof vt) (oof vt + i * 1))), .ld (I6 tz)] [Ru Try.prog (vS (Instr.indexAt 51 (vt) (I6 ↑i))) ((Po (bof vt) (oof vt + i * 1))) w2, w2.cell? ⟨bof vt, oof vt + i * 1, none⟩ = some (I6 tz)] [(5, vt), (20, .slice (some ⟨tb, 0, none⟩) 3 3), (21, .slice (some ⟨xb, 0, none⟩) 3 3), (22, .slice bs 3 cp), (27, I6 ↑i), (137, I6 tz)] 4 2 hS (.cons (ix_rd (e := 3) (j := i) ht (by kernel_rfl) (by kernel_rfl) rfl (by omega)) (.cons ((htb.ext0 hEb).cellAt (i * 1) (by omega) (by rw [Nat.mul_one]; exact iv_at htz)) .nil)) fun a hS => ?_
   refine eff_call_ro wide_wide (r := 1) (f := 21) (vs := [I6 tz, I6 3]) (cap := #[]) (d := (some 138)) (v := Value.int .i64 ↑k) hS (by kernel_rfl) Try.call21 #[I6 tz, I6 3] (by kernel_rfl) ((by have h := Round_any (k := tz) (n := 3) (w := w2) (by omega); rw [hk] at h; exact h)) fun a hS => ?_
   refine sg wide_wide [.p] [] [(5, vt), (20, .slice (some ⟨tb, 0, none⟩) 3 3), (21, .slice (some ⟨xb, 0, none⟩) 3 3), (22, .slice bs 3 cp), (27, I6 ↑i), (28, I6 ↑k)] 6 0 hS .nil fun a hS => ?_
   refine seg_end ?_
   refine hK195 _ _ ?_
   refine sq fun K196 hK196 => ?_
   refine rgn 1 ?_
   refine sg wide_wide [.p] [] [(5, vt), (20, .slice (some ⟨tb, 0, none⟩) 3 3), (21, .slice (some ⟨xb, 0, none⟩) 3 3), (22, .slice bs 3 cp), (27, I6 ↑i), (28, I6 ↑k), (29, I6 0)] 1 0 hS .nil fun a hS => ?_
   refine seg_end ?_
   refine hK196 _ _ ?_
   refine wpIn_block ?_
   refine loop_ghost (fun ((n, ats, L) : Nat × List Int × List Rr) a' w' => St 218 [] [(5, vt), (20, .slice (some ⟨tb, 0, none⟩) 3 3), (21, .slice (some ⟨xb, 0, none⟩) 3 3), (22, .slice bs 3 cp), (27, I6 ↑i), (28, I6 ↑k), (29, I6 ↑n)] a' ∧ n ≤ 50 ∧ L.length = 3 ∧ ats.length = 3 ∧ OwnR w' 23 1 tb 3 3 [.slice qb xs.length qc, .slice qb xs.length qc, .slice qb2 ys.length qc2] ∧ OwnR w' 3 1 xb 3 3 (iv ats) ∧ OwnV w' 76 1 (.slice bs 3 cp) 3 (L.map Rr.v) ∧ RA wb.heap.size w30.heap.size w' ats [xs, xs, ys] L ∧ Ext [] wb w') (fun ((n, ats, L) : Nat × List Int × List Rr) => 50 - n) (0, ats, L) ⟨hS.keepTo [5, 20, 21, 22, 27, 28, 29] (by kernel_rfl), Nat.zero_le _, hL3, ha3, hT2, hX2, hO2, hRA2, hEb⟩ ?_
   rintro ⟨n, ats, L⟩ a w2 ⟨hS, hn5, hL3, ha3, hT2, hX2, hO2, hRA2, hEb⟩
   obtain ⟨x0, hx0⟩ : ∃ x0, L[k]? = some x0 := ⟨_, List.getElem?_eq_getElem (by omega)⟩
   obtain ⟨a0, hat⟩ : ∃ a0, ats[k]? = some a0 := ⟨_, List.getElem?_eq_getElem (by omega)⟩
   obtain ⟨hKx, hcx⟩ := hRA2.ok k x0 a0 tx hx0 hat htx
   refine sq fun K197 hK197 => ?_
   refine sq fun K198 hK198 => ?_
   rcases (show ¬n < nn ∨ (n < nn ∧ x0.p = none) ∨ (n < nn ∧ ∃ r j : Nat, x0.p = some r ∧ a0 = (j : Int) ∧ j ≤ tx.length ∧ Rdr wb.heap.size w2 r x0.B j (tx.drop j)) by
    by_cases h : n < nn
    ·rcases hcx with h1 | h1
     ·exact .inr (.inl ⟨h, h1.1⟩)
     ·exact .inr (.inr ⟨h, h1⟩)
    ·exact .inl h) with hn2 | ⟨hn2, hxp⟩ | ⟨hn2, r, j, hxp, rfl, hj, hRd⟩
   ·
    refine rgn 15 ?_
    refine sg wide_wide [.p, .p, .p, .run ((Po (bof vt) (oof vt + i * 1))), .ld (I6 tz), .run (I6 (tz.tdiv 3))] [Ru Try.prog (vS (Instr.indexAt 51 (vt) (I6 ↑i))) ((Po (bof vt) (oof vt + i * 1))) w2, w2.cell? ⟨bof vt, oof vt + i * 1, none⟩ = some (I6 tz), Ru Try.prog (vS (do eqGuard .quo 3 (.tmp 143) (.const (I6 3)) (I6 tz) (I6 3); binOp .quo 3 (I6 tz) (I6 3))) (I6 (tz.tdiv 3)) w2] [(5, vt), (20, .slice (some ⟨tb, 0, none⟩) 3 3), (21, .slice (some ⟨xb, 0, none⟩) 3 3), (22, .slice bs 3 cp), (27, I6 ↑i), (28, I6 ↑k), (29, I6 ↑n), (139, I6 ↑n), (144, I6 (tz.tdiv 3))] 6 9 hS (.cons (ix_rd (e := 3) (j := i) ht (by kernel_rfl) (by kernel_rfl) rfl (by omega)) (.cons ((htb.ext0 hEb).cellAt (i * 1) (by omega) (by rw [Nat.mul_one]; exact iv_at htz)) (.cons (bin_quo3 htzm.1 htzm.2) .nil))) fun a hS => ?_
    refine eff_call_ro wide_wide (r := 8) (f := 21) (vs := [I6 (tz.tdiv 3), I6 50]) (cap := #[]) (d := (some 145)) (v := Value.int .i64 ↑nn) hS (by kernel_rfl) Try.call21 #[I6 (tz.tdiv 3), I6 50] (by kernel_rfl) ((by have h := Round_any (k := tz.tdiv 3) (n := 50) (w := w2) (by omega); rw [hnn] at h; exact h)) fun a hS => ?_
    refine sg wide_wide [.as (.bool false), .p, .no, .no, .no, .no, .no, .p] [Value.bool (decide ((↑n : Int) < ↑nn)) = .bool false] [(5, vt), (20, .slice (some ⟨tb, 0, none⟩) 3 3), (21, .slice (some ⟨xb, 0, none⟩) 3 3), (22, .slice bs 3 cp), (27, I6 ↑i), (28, I6 ↑k), (29, I6 ↑n), (153, .bool false)] 15 0 hS (.cons (as_f (by omega)) .nil) fun a hS => ?_
    refine seg_end ?_
    refine hK198 _ _ ?_
    refine cond_f hS rfl ?_
    refine wpIn_exit ?_
    refine then_exit ?_
    refine then_exit ?_
    refine inBlock_hit ?_
    refine inBlock_normal ?_
    refine hK194 _ _ ?_
    refine rgn 3 ?_
    refine sg wide_wide [.p, .as (I6 (↑i + 1)), .p] [Value.int .i64 (IntKind.i64.wrap (↑i + 1)) = I6 (↑i + 1)] [(5, vt), (20, .slice (some ⟨tb, 0, none⟩) 3 3), (21, .slice (some ⟨xb, 0, none⟩) 3 3), (22, .slice bs 3 cp), (27, I6 (↑i + 1)), (28, I6 ↑k), (29, I6 ↑n), (153, .bool false)] 3 0 hS (.cons (as_i64 (by omega)) .nil) fun a hS => ?_
    refine seg_end ?_
    exact ⟨(i + 1, ats, L), ⟨hS.kp [(5, vt), (20, .slice (some ⟨tb, 0, none⟩) 3 3), (21, .slice (some ⟨xb, 0, none⟩) 3 3), (22, .slice bs 3 cp), (27, I6 (↑i + 1))], by omega, hL3, ha3, hT2, hX2, hO2, hRA2, hEb⟩, by simp only; omega⟩
   ·
    refine rgn 15 ?_
    refine sg wide_wide [.p, .p, .p, .run ((Po (bof vt) (oof vt + i * 1))), .ld (I6 tz), .run (I6 (tz.tdiv 3))] [Ru Try.prog (vS (Instr.indexAt 51 (vt) (I6 ↑i))) ((Po (bof vt) (oof vt + i * 1))) w2, w2.cell? ⟨bof vt, oof vt + i * 1, none⟩ = some (I6 tz), Ru Try.prog (vS (do eqGuard .quo 3 (.tmp 143) (.const (I6 3)) (I6 tz) (I6 3); binOp .quo 3 (I6 tz) (I6 3))) (I6 (tz.tdiv 3)) w2] [(5, vt), (20, .slice (some ⟨tb, 0, none⟩) 3 3), (21, .slice (some ⟨xb, 0, none⟩) 3 3), (22, .slice bs 3 cp), (27, I6 ↑i), (28, I6 ↑k), (29, I6 ↑n), (139, I6 ↑n), (144, I6 (tz.tdiv 3))] 6 9 hS (.cons (ix_rd (e := 3) (j := i) ht (by kernel_rfl) (by kernel_rfl) rfl (by omega)) (.cons ((htb.ext0 hEb).cellAt (i * 1) (by omega) (by rw [Nat.mul_one]; exact iv_at htz)) (.cons (bin_quo3 htzm.1 htzm.2) .nil))) fun a hS => ?_
    refine eff_call_ro wide_wide (r := 8) (f := 21) (vs := [I6 (tz.tdiv 3), I6 50]) (cap := #[]) (d := (some 145)) (v := Value.int .i64 ↑nn) hS (by kernel_rfl) Try.call21 #[I6 (tz.tdiv 3), I6 50] (by kernel_rfl) ((by have h := Round_any (k := tz.tdiv 3) (n := 50) (w := w2) (by omega); rw [hnn] at h; exact h)) fun a hS => ?_
    refine sg wide_wide [.as (.bool true), .p, .p, .p, .run ((Po (bof (.slice bs 3 cp)) (0 + k * 1))), .ld (.pointer none), .p, .p] [Value.bool (decide ((↑n : Int) < ↑nn)) = .bool true, Ru Try.prog (vS (Instr.indexAt 75 (.slice bs 3 cp) (I6 ↑k))) ((Po (bof (.slice bs 3 cp)) (0 + k * 1))) w2, w2.cell? ⟨bof (.slice bs 3 cp), 0 + k * 1, none⟩ = some (.pointer none)] [(5, vt), (20, .slice (some ⟨tb, 0, none⟩) 3 3), (21, .slice (some ⟨xb, 0, none⟩) 3 3), (22, .slice bs 3 cp), (27, I6 ↑i), (28, I6 ↑k), (29, I6 ↑n), (153, .bool false)] 15 0 hS (.cons (as_t (by omega)) (.cons (ix_own (j := k) (hO2) (by kernel_rfl) (by kernel_rfl) rfl (by omega)) (.cons ((hO2).cellAt _ (by simp [hx0, Rr.v, hxp])) .nil))) fun a hS => ?_
    refine seg_end ?_
    refine hK198 _ _ ?_
    refine cond_f hS rfl ?_
    refine wpIn_exit ?_
    refine then_exit ?_
    refine then_exit ?_
    refine inBlock_hit ?_
    refine inBlock_normal ?_
    refine hK194 _ _ ?_
    refine rgn 3 ?_
    refine sg wide_wide [.p, .as (I6 (↑i + 1)), .p] [Value.int .i64 (IntKind.i64.wrap (↑i + 1)) = I6 (↑i + 1)] [(5, vt), (20, .slice (some ⟨tb, 0, none⟩) 3 3), (21, .slice (some ⟨xb, 0, none⟩) 3 3), (22, .slice bs 3 cp), (27, I6 (↑i + 1)), (28, I6 ↑k), (29, I6 ↑n), (153, .bool false)] 3 0 hS (.cons (as_i64 (by omega)) .nil) fun a hS => ?_
    refine seg_end ?_
    exact ⟨(i + 1, ats, L), ⟨hS.kp [(5, vt), (20, .slice (some ⟨tb, 0, none⟩) 3 3), (21, .slice (some ⟨xb, 0, none⟩) 3 3), (22, .slice bs 3 cp), (27, I6 (↑i + 1))], by omega, hL3, ha3, hT2, hX2, hO2, hRA2, hEb⟩, by simp only; omega⟩
   ·
    have hxN := hRd.low
    have hxK : ∀ b ∈ x0.B, w30.heap.size ≤ b := hKx
    have htbl := hT0.lt
    have hxbl := hX0.lt
    have hrB : r ∈ x0.B := hRd.self
    refine rgn 15 ?_
    refine sg wide_wide [.p, .p, .p, .run ((Po (bof vt) (oof vt + i * 1))), .ld (I6 tz), .run (I6 (tz.tdiv 3))] [Ru Try.prog (vS (Instr.indexAt 51 (vt) (I6 ↑i))) ((Po (bof vt) (oof vt + i * 1))) w2, w2.cell? ⟨bof vt, oof vt + i * 1, none⟩ = some (I6 tz), Ru Try.prog (vS (do eqGuard .quo 3 (.tmp 143) (.const (I6 3)) (I6 tz) (I6 3); binOp .quo 3 (I6 tz) (I6 3))) (I6 (tz.tdiv 3)) w2] [(5, vt), (20, .slice (some ⟨tb, 0, none⟩) 3 3), (21, .slice (some ⟨xb, 0, none⟩) 3 3), (22, .slice bs 3 cp), (27, I6 ↑i), (28, I6 ↑k), (29, I6 ↑n), (139, I6 ↑n), (144, I6 (tz.tdiv 3))] 6 9 hS (.cons (ix_rd (e := 3) (j := i) ht (by kernel_rfl) (by kernel_rfl) rfl (by omega)) (.cons ((htb.ext0 hEb).cellAt (i * 1) (by omega) (by rw [Nat.mul_one]; exact iv_at htz)) (.cons (bin_quo3 htzm.1 htzm.2) .nil))) fun a hS => ?_
    refine eff_call_ro wide_wide (r := 8) (f := 21) (vs := [I6 (tz.tdiv 3), I6 50]) (cap := #[]) (d := (some 145)) (v := Value.int .i64 ↑nn) hS (by kernel_rfl) Try.call21 #[I6 (tz.tdiv 3), I6 50] (by kernel_rfl) ((by have h := Round_any (k := tz.tdiv 3) (n := 50) (w := w2) (by omega); rw [hnn] at h; exact h)) fun a hS => ?_
    refine sg wide_wide [.as (.bool true), .p, .p, .p, .run ((Po (bof (.slice bs 3 cp)) (0 + k * 1))), .ld ((Pv r)), .p, .p] [Value.bool (decide ((↑n : Int) < ↑nn)) = .bool true, Ru Try.prog (vS (Instr.indexAt 75 (.slice bs 3 cp) (I6 ↑k))) ((Po (bof (.slice bs 3 cp)) (0 + k * 1))) w2, w2.cell? ⟨bof (.slice bs 3 cp), 0 + k * 1, none⟩ = some ((Pv r))] [(5, vt), (20, .slice (some ⟨tb, 0, none⟩) 3 3), (21, .slice (some ⟨xb, 0, none⟩) 3 3), (22, .slice bs 3 cp), (27, I6 ↑i), (28, I6 ↑k), (29, I6 ↑n), (153, .bool true)] 15 0 hS (.cons (as_t (by omega)) (.cons (ix_own (j := k) (hO2) (by kernel_rfl) (by kernel_rfl) rfl (by omega)) (.cons ((hO2).cellAt _ (by simp [hx0, Rr.v, hxp])) .nil))) fun a hS => ?_
    refine seg_end ?_
    refine hK198 _ _ ?_
    refine cond_t hS rfl ?_
    refine wpIn_skip ?_
    refine hK197 _ _ ?_
    refine sq fun K199 hK199 => ?_
    refine wpIn_block ?_
    refine sq fun K200 hK200 => ?_
    refine rgn 10 ?_
    refine sg wide_wide [.p, .p, .run ((Po (bof (.slice bs 3 cp)) (0 + k * 1))), .ld ((Pv r))] [Ru Try.prog (vS (Instr.indexAt 75 (.slice bs 3 cp) (I6 ↑k))) ((Po (bof (.slice bs 3 cp)) (0 + k * 1))) w2, w2.cell? ⟨bof (.slice bs 3 cp), 0 + k * 1, none⟩ = some ((Pv r))] [(5, vt), (20, .slice (some ⟨tb, 0, none⟩) 3 3), (21, .slice (some ⟨xb, 0, none⟩) 3 3), (22, .slice bs 3 cp), (27, I6 ↑i), (28, I6 ↑k), (29, I6 ↑n), (153, .bool true), (160, (Pv r))] 4 6 hS (.cons (ix_own (j := k) (hO2) (by kernel_rfl) (by kernel_rfl) rfl (by omega)) (.cons ((hO2).cellAt _ (by simp [hx0, Rr.v, hxp])) .nil)) fun a hS => ?_
    have hKw : w30.heap.size ≤ w2.heap.size := Nat.le_of_lt (Nat.lt_of_le_of_lt (hKx _ hrB) (hRd.lie _ hrB))
    refine eff_call wide_wide (r := 5) (f := 38) (vs := [(Pv r)]) (cap := #[]) (d := (some 161)) hS (by kernel_rfl) Try.call38 #[(Pv r)] (by kernel_rfl) (Next_Y hRd (by omega)) ?_
    rintro _ wn ⟨B', hEn, hFn, hcs⟩
    rcases hcs with ⟨hG, hRd', rfl⟩ | ⟨y, G', hG, hRd', rfl⟩
    ·
     refine ⟨_, rfl, fun a hS => ?_⟩
     have hjl : j = tx.length := by have := congrArg List.length hG; rw [List.length_drop] at this; simp at this; omega
     have hRdn : Rdr wb.heap.size wn r B' j (tx.drop j) := by rw [hG]; exact hRd'
     have hT3 := (hT2).ext hEn (fun hm => by have := hxK _ hm; omega)
     have hX3 := (hX2).ext hEn (fun hm => by have := hxK _ hm; omega)
     have hO3 := (hO2).ext hEn (hRd.ne hO2)
     have hEb3 := hEb.trans hEn (fun b hb => .inr (hxN b hb))
     have hRA3 := RA.step (j := j) hRA2 hx0 hxp hEn hFn htx hat hKw hxN (by omega) hRdn
     have hBn : ∀ b ∈ B', w30.heap.size ≤ b := fun b hb => (hFn b hb).elim (hxK b) (Nat.le_trans hKw)
     refine sg wide_wide [.p, .p, .p, .p, .p] [] [(5, vt), (20, .slice (some ⟨tb, 0, none⟩) 3 3), (21, .slice (some ⟨xb, 0, none⟩) 3 3), (22, .slice bs 3 cp), (27, I6 ↑i), (28, I6 ↑k), (29, I6 ↑n), (153, .bool true), (30, .int .u8 0), (31, .bool false)] 10 0 hS .nil fun a hS => ?_
     refine seg_end ?_
     refine hK200 _ _ ?_
     refine sq fun K202 hK202 => ?_
     refine sq fun K203 hK203 => ?_
     refine region_fn2 wide_wide [.q .p, .q .p, .q .p, .q (.run ((Po xb (0 + k * 1)))), .q (.ld (I6 ↑j)), .q .p, .q .p, .q (.run ((Po tb (0 + k * 1)))), .q (.ld (tv)), .q (.run (I6 ↑tx.length)), .q (.as (.bool false)), .q .p, .q .p, .q .p, .q .p, .q .no, .q .no, .q .no, .q .no, .q .no, .q .no, .q .no, .q .no, .q .no, .q .no, .q .no, .q .no, .q .p, .q .p, .q .p, .q .p, .q .p, .q .p, .q .p, .q .p, .q .p, .q .p] [0, 0, 0, 0, 0, 0, 0, 0, 0, 0, 0, 0, 0, 0, 0, 0, 0, 0, 0, 0, 0, 0, 0, 0, 0, 0, 0, 0, 0, 0, 0, 0, 0, 0, 0, 0, 0] [0, 0, 0, 0, 0, 0, 0, 0, 0, 0, 0, 0, 0, 0, 0, 0, 0, 0, 0, 0, 0, 0, 0, 0, 0, 0, 0, 0, 0, 0, 0, 0, 0, 0, 0, 0, 0] [0, 0, 0, 6, 14, 0, 0, 96, 224, 480, 1022, 2047, 4095, 8191, 16383, 32767, 32767, 32767, 229375, 491519, 32767, 32767, 3178495, 7372799, 16744447, 33521663, 67108863, 134217727, 268435455, 536870911, 1073741823, 2147483647, 4294967295, 8589934591, 17179869183, 34359738367, 68719476735] [] 0 ([(5, vt), (20, .slice (some ⟨tb, 0, none⟩) 3 3), (21, .slice (some ⟨xb, 0, none⟩) 3 3), (22, .slice bs 3 cp), (27, I6 ↑i), (28, I6 ↑k), (29, I6 ↑n), (153, .bool true), (30, .int .u8 0), (31, .bool false), (164, .bool false), (165, .slice (some ⟨xb, 0, none⟩) 3 3), (166, I6 ↑k), (167, (Po xb (0 + k * 1))), (168, I6 ↑j), (169, .slice (some ⟨tb, 0, none⟩) 3 3), (170, I6 ↑k), (171, (Po tb (0 + k * 1))), (172, tv), (173, I6 ↑tx.length), (174, .bool false), (175, .bool false), (176, .bool false), (177, .bool false), (178, .bool false), (179, undef), (180, undef), (181, undef), (182, undef), (183, undef), (184, undef), (185, undef), (186, undef), (187, undef), (188, undef), (189, undef), (190, undef), (191, .bool false), (192, .bool false), (193, .bool false), (194, .bool false), (195, .bool true), (196, .bool true), (197, .int .u8 0), (198, .bool false), (199, .bool false), (200, .bool false)]) [wn.drew] wn.drew (fun w' => [(3, [Ru Try.prog (vS (Instr.indexAt 51 (.slice (some ⟨xb, 0, none⟩) 3 3) (I6 ↑k))) ((Po xb (0 + k * 1))) w']), (4, [w'.cell? ⟨xb, 0 + k * 1, none⟩ = some (I6 ↑j)]), (7, [Ru Try.prog (vS (Instr.indexAt 71 (.slice (some ⟨tb, 0, none⟩) 3 3) (I6 ↑k))) ((Po tb (0 + k * 1))) w']), (8, [w'.cell? ⟨tb, 0 + k * 1, none⟩ = some (tv)]), (9, [Ru Try.prog (vS (Builtin.len_ #[23] 3 #[tv])) (I6 ↑tx.length) w']), (10, [Value.bool (decide ((↑j : Int) < ↑tx.length)) = .bool false])]) [5, 20, 21, 22, 27, 28, 29, 153, 30, 31] [] hS (by kernel_rfl) (by kernel_rfl) (by kernel_rfl) (by kernel_rfl) (fun _ => by kernel_rfl) (by kernel_rfl) (by kernel_rfl) (by kernel_rfl) ?_ ?_ ?_
     ·intro e w' hw
      refine (.cons ?_ (.cons ?_ (.cons ?_ (.cons ?_ (.cons ?_ (.cons ?_ .nil))))))
      ·exact fun _ _ => (.cons (ix_slice (E := 3) (size := 1) (j := k) (by kernel_rfl) (by kernel_rfl) rfl (by omega)) .nil)
      ·intro h1 h2
       obtain rfl : e = 0 := Nat.le_antisymm h2 h1
       obtain rfl : w' = wn.drew := hw.trans (by kernel_rfl)
       exact (.cons ((hX3.drew : OwnR wn.drew 3 1 xb 3 3 (iv ats)).cellAt _ (by rw [Nat.zero_add, Nat.mul_one]; exact iv_at hat)) .nil)
      ·exact fun _ _ => (.cons (ix_slice (E := 23) (size := 1) (j := k) (by kernel_rfl) (by kernel_rfl) rfl (by omega)) .nil)
      ·intro h1 h2
       obtain rfl : e = 0 := Nat.le_antisymm h2 h1
       obtain rfl : w' = wn.drew := hw.trans (by kernel_rfl)
       exact (.cons ((hT3.drew : OwnR wn.drew 23 1 tb 3 3 ([.slice qb xs.length qc, .slice qb xs.length qc, .slice qb2 ys.length qc2])).cellAt _ (by simpa using htv)) .nil)
      ·exact fun _ _ => (.cons (run_len_rd (e := 5) hT.rd (by kernel_rfl)) .nil)
      ·exact fun _ _ => (.cons (as_f (by omega)) .nil)
     ·refine .nil
     rintro a w205 hS hw206
     replace hw206 : w205 = wn.drew := hw206.trans (by kernel_rfl)
     have hB207 := OwnR.at' hw206 (hT3.drew)
     have hB208 := OwnR.at' hw206 (hX3.drew)
     have hB209 := OwnV.at' hw206 (hO3.drew)
     have hE210 : Ext [] wb w205 := by rw [hw206]; exact hEb3.drew
     have hX211 : Ext [] wn w205 := by rw [hw206]; exact (Ext.refl _ _).drew
     have hG212 : RA wb.heap.size w30.heap.size w205 (ats.set k (j : Int)) [xs, xs, ys] (L.set k ⟨some r, B'⟩) := hRA3.ext0 hX211
     have hG213 : Rdr wb.heap.size w205 r B' j (tx.drop j) := hRdn.ext hX211 (by simp)
     replace hS := hS.kp [(5, vt), (20, .slice (some ⟨tb, 0, none⟩) 3 3), (21, .slice (some ⟨xb, 0, none⟩) 3 3), (22, .slice bs 3 cp), (27, I6 ↑i), (28, I6 ↑k), (29, I6 ↑n), (153, .bool true), (30, .int .u8 0), (31, .bool false), (200, .bool false)]
     refine hK203 _ _ ?_
     refine cond_f hS rfl ?_
     refine wpIn_skip ?_
     refine hK202 _ _ ?_
     refine sq fun K214 hK214 => ?_
     refine sq fun K215 hK215 => ?_
     refine rgn 1 ?_
     refine sg wide_wide [.p] [] [(5, vt), (20, .slice (some ⟨tb, 0, none⟩) 3 3), (21, .slice (some ⟨xb, 0, none⟩) 3 3), (22, .slice bs 3 cp), (27, I6 ↑i), (28, I6 ↑k), (29, I6 ↑n), (153, .bool true), (30, .int .u8 0), (31, .bool false), (200, .bool false), (201, .bool false)] 1 0 hS .nil fun a hS => ?_
     refine seg_end ?_
     refine hK215 _ _ ?_
     refine cond_f hS rfl ?_
     refine wpIn_skip ?_
     refine hK214 _ _ ?_
     refine sq fun K216 hK216 => ?_
     refine region_gh2 (G := World) wide_wide [.q .p, .q .p, .q (.run ((Po (bof (.slice bs 3 cp)) (0 + k * 1)))), .q (.ld ((Pv r))), .e, .q .p, .q .p, .q (.run ((Po xb (0 + k * 1)))), .q (.ld (I6 ↑j)), .q (.as (.bool false))] [0, 0, 0, 0, 0, 0, 0, 0, 0, 1] [0, 0, 0, 0, 0, 1, 1, 1, 1, 1] [0, 0, 3, 7, 15, 0, 0, 96, 224, 511] [4] [(4, 0)] 1 (fun wc217 => ([(5, vt), (20, .slice (some ⟨tb, 0, none⟩) 3 3), (21, .slice (some ⟨xb, 0, none⟩) 3 3), (22, .slice bs 3 cp), (27, I6 ↑i), (28, I6 ↑k), (29, I6 ↑n), (153, .bool true), (30, .int .u8 0), (31, .bool false), (200, .bool false), (201, .bool false), (208, .slice bs 3 cp), (209, I6 ↑k), (210, (Po (bof (.slice bs 3 cp)) (0 + k * 1))), (211, (Pv r)), (212, I6 ↑j), (213, .slice (some ⟨xb, 0, none⟩) 3 3), (214, I6 ↑k), (215, (Po xb (0 + k * 1))), (216, I6 ↑j), (217, .bool false)] : Fm)) (fun wc217 => [w205.drew, wc217]) (w205.drew) (fun e wc217 => hAt [True, (Ext [] w205.drew wc217) ∧ True] e) (fun wc217 w' => [(2, [Ru Try.prog (vS (Instr.indexAt 75 (.slice bs 3 cp) (I6 ↑k))) ((Po (bof (.slice bs 3 cp)) (0 + k * 1))) w']), (3, [w'.cell? ⟨bof (.slice bs 3 cp), 0 + k * 1, none⟩ = some ((Pv r))]), (7, [Ru Try.prog (vS (Instr.indexAt 51 (.slice (some ⟨xb, 0, none⟩) 3 3) (I6 ↑k))) ((Po xb (0 + k * 1))) w']), (8, [w'.cell? ⟨xb, 0 + k * 1, none⟩ = some (I6 ↑j)]), (9, [Value.bool (((↑j : Int) != ↑j)) = .bool false])]) w205.drew [5, 20, 21, 22, 27, 28, 29, 153, 30, 31, 200, 201] [] hS (by kernel_rfl) (by kernel_rfl) (by kernel_rfl) (by kernel_rfl) (fun wc217 _ => by kernel_rfl) (by kernel_rfl) (by kernel_rfl) (by kernel_rfl) trivial ?_ (by kernel_rfl) ?_ ?_
     ·rintro e wc217 w' hw hH
      refine (.cons ?_ (.cons ?_ (.cons ?_ (.cons ?_ (.cons ?_ .nil)))))
      ·intro h1 h2
       obtain rfl : e = 0 := Nat.le_antisymm h2 h1
       have hwe : w205.drew = w' := (hw.trans (by kernel_rfl)).symm
       subst hwe
       clear hH
       exact (.cons (ix_own (j := k) (hB209) (by kernel_rfl) (by kernel_rfl) rfl (by omega)) .nil)
      ·intro h1 h2
       obtain rfl : e = 0 := Nat.le_antisymm h2 h1
       have hwe : w205.drew = w' := (hw.trans (by kernel_rfl)).symm
       subst hwe
       clear hH
       exact (.cons ((hB209.drew : OwnV w205.drew 76 1 (.slice bs 3 cp) 3 (L.map Rr.v)).cellAt _ (by simp [hx0, Rr.v, hxp])) .nil)
      ·intro h1 h2
       replace h1 : 0 ≤ e := h1
       replace h2 : e ≤ 1 := h2
       have he : e = 0 ∨ e = 1 := by omega
       rcases he with rfl | rfl
       ·have hwe : w205.drew = w' := (hw.trans (by kernel_rfl)).symm
        subst hwe
        clear hH
        exact (.cons (ix_slice (E := 3) (size := 1) (j := k) (by kernel_rfl) (by kernel_rfl) rfl (by omega)) .nil)
       ·have hwe : wc217 = w' := (hw.trans (by kernel_rfl)).symm
        subst hwe
        obtain ⟨hEc217, _⟩ := hH
        exact (.cons (ix_slice (E := 3) (size := 1) (j := k) (by kernel_rfl) (by kernel_rfl) rfl (by omega)) .nil)
      ·intro h1 h2
       replace h1 : 0 ≤ e := h1
       replace h2 : e ≤ 1 := h2
       have he : e = 0 ∨ e = 1 := by omega
       rcases he with rfl | rfl
       ·have hwe : w205.drew = w' := (hw.trans (by kernel_rfl)).symm
        subst hwe
        clear hH
        exact (.cons ((hB208.drew : OwnR w205.drew 3 1 xb 3 3 (iv ats)).cellAt _ (by rw [Nat.zero_add, Nat.mul_one]; exact iv_at hat)) .nil)
       ·have hwe : wc217 = w' := (hw.trans (by kernel_rfl)).symm
        subst hwe
        obtain ⟨hEc217, _⟩ := hH
        exact (.cons (((hB208.drew : OwnR w205.drew 3 1 xb 3 3 (iv ats)).ext hEc217 (by simp) : OwnR wc217 3 1 xb 3 3 (iv ats)).cellAt _ (by rw [Nat.zero_add, Nat.mul_one]; exact iv_at hat)) .nil)
      ·intro h1 h2
       obtain rfl : e = 1 := Nat.le_antisymm h2 h1
       have hwe : wc217 = w' := (hw.trans (by kernel_rfl)).symm
       subst hwe
       obtain ⟨hEc217, _⟩ := hH
       exact (.cons (as_ne_f (rfl)) .nil)
     ·refine (.cons ?eq218_4 .nil)
      ·rintro wc217 hH
       clear hH
       refine eff_gh (w205.drew) (by kernel_rfl) ?_
       refine upon_call (f := 39) (vs := [(Pv r)]) (cap := #[]) (d := (some 212)) (by kernel_rfl) Try.call39 #[(Pv r)] (by kernel_rfl) (At_Q (hG213.ext ((Ext.refl [] _).drew) (by simp))) ?_
       rintro _ wc217 ⟨rfl, hEc217⟩
       exact ⟨_, rfl, ⟨wc217, by kernel_rfl, by kernel_rfl, by kernel_rfl, ⟨hEc217, trivial⟩⟩⟩
     rintro wc217 a w219 hS hw220 hH
     obtain ⟨hEc217, _⟩ := hH
     replace hw220 : w219 = wc217 := hw220.trans (by kernel_rfl)
     have hB221 := OwnR.at' hw220 ((hB207.drew : OwnR w205.drew 23 1 tb 3 3 ([.slice qb xs.length qc, .slice qb xs.length qc, .slice qb2 ys.length qc2])).ext hEc217 (by simp))
     have hB222 := OwnR.at' hw220 ((hB208.drew : OwnR w205.drew 3 1 xb 3 3 (iv ats)).ext hEc217 (by simp))
     have hB223 := OwnV.at' hw220 ((hB209.drew : OwnV w205.drew 76 1 (.slice bs 3 cp) 3 (L.map Rr.v)).ext hEc217 (by simp))
     have hE224 : Ext [] wb w219 := by rw [hw220]; exact (hE210.drew).trans0 hEc217
     have hX225 : Ext [] w205 w219 := by rw [hw220]; exact ((Ext.refl _ _).drew).trans0 hEc217
     have hG226 : RA wb.heap.size w30.heap.size w219 (ats.set k (j : Int)) [xs, xs, ys] (L.set k ⟨some r, B'⟩) := hG212.ext0 hX225
     have hG227 : Rdr wb.heap.size w219 r B' j (tx.drop j) := hG213.ext hX225 (by simp)
     replace hS := hS.kp [(5, vt), (20, .slice (some ⟨tb, 0, none⟩) 3 3), (21, .slice (some ⟨xb, 0, none⟩) 3 3), (22, .slice bs 3 cp), (27, I6 ↑i), (28, I6 ↑k), (29, I6 ↑n), (153, .bool true), (30, .int .u8 0), (31, .bool false), (200, .bool false), (201, .bool false), (217, .bool false)]
     refine hK216 _ _ ?_
     refine cond_f hS rfl ?_
     refine wpIn_skip ?_
     refine inBlock_normal ?_
     refine hK199 _ _ ?_
     refine rgn 3 ?_
     refine sg wide_wide [.p, .as (I6 (↑n + 1)), .p] [Value.int .i64 (IntKind.i64.wrap (↑n + 1)) = I6 (↑n + 1)] [(5, vt), (20, .slice (some ⟨tb, 0, none⟩) 3 3), (21, .slice (some ⟨xb, 0, none⟩) 3 3), (22, .slice bs 3 cp), (27, I6 ↑i), (28, I6 ↑k), (29, I6 (↑n + 1)), (153, .bool true), (30, .int .u8 0), (31, .bool false), (200, .bool false), (201, .bool false), (217, .bool false)] 3 0 hS (.cons (as_i64 (by omega)) .nil) fun a hS => ?_
     refine seg_end ?_
     have hXf : OwnR w219 3 1 xb 3 3 (iv (ats.set k (j : Int))) := by
      have h := hB222
      rw [set_same hat]; exact h
     exact ⟨(n + 1, (ats.set k (j : Int)), (L.set k ⟨some r, B'⟩)), ⟨hS.kp [(5, vt), (20, .slice (some ⟨tb, 0, none⟩) 3 3), (21, .slice (some ⟨xb, 0, none⟩) 3 3), (22, .slice bs 3 cp), (27, I6 ↑i), (28, I6 ↑k), (29, I6 (↑n + 1))], by omega, by simpa using hL3, by simpa using ha3, hB221, hXf, by rw [map_v_set hx0 hxp]; exact hB223, hG226, hE224⟩, by simp only; omega⟩
    ·
     refine ⟨_, rfl, fun a hS => ?_⟩
     have hjl : j < tx.length := by
      have := congrArg List.length hG; rw [List.length_drop] at this; simp at this; omega
     have hdr : tx.drop (j + 1) = G' := by rw [← List.drop_drop, hG]; rfl
     have hy : tx[j]? = some y := by have := congrArg (fun l => l[0]?) hG; simpa [List.getElem?_drop] using this
     have hRdn : Rdr wb.heap.size wn r B' (j + 1) (tx.drop (j + 1)) := by rw [hdr]; exact hRd'
     have hT3 := (hT2).ext hEn (fun hm => by have := hxK _ hm; omega)
     have hX3 := (hX2).ext hEn (fun hm => by have := hxK _ hm; omega)
     have hO3 := (hO2).ext hEn (hRd.ne hO2)
     have hEb3 := hEb.trans hEn (fun b hb => .inr (hxN b hb))
     have hRA3 := RA.step (j := (j + 1)) hRA2 hx0 hxp hEn hFn htx hat hKw hxN (by omega) hRdn
     have hBn : ∀ b ∈ B', w30.heap.size ≤ b := fun b hb => (hFn b hb).elim (hxK b) (Nat.le_trans hKw)
     refine sg wide_wide [.p, .p, .p, .p, .p] [] [(5, vt), (20, .slice (some ⟨tb, 0, none⟩) 3 3), (21, .slice (some ⟨xb, 0, none⟩) 3 3), (22, .slice bs 3 cp), (27, I6 ↑i), (28, I6 ↑k), (29, I6 ↑n), (153, .bool true), (30, .int .u8 y), (31, .bool true)] 10 0 hS .nil fun a hS => ?_
     refine seg_end ?_
     refine hK200 _ _ ?_
     refine sq fun K228 hK228 => ?_
     refine sq fun K229 hK229 => ?_
     refine region_fn2 wide_wide [.q .p, .q .p, .q .p, .q (.run ((Po xb (0 + k * 1)))), .q (.ld (I6 ↑j)), .q .p, .q .p, .q (.run ((Po tb (0 + k * 1)))), .q (.ld (tv)), .q (.run (I6 ↑tx.length)), .q (.as (.bool true)), .q .p, .q .p, .q .p, .q .p, .q .p, .q .p, .q .p, .q (.run ((Po tb (0 + k * 1)))), .q (.ld (tv)), .q .p, .q .p, .q (.run ((Po xb (0 + k * 1)))), .q (.ld (I6 ↑j)), .q (.run ((Po (bof tv) (oof tv + j * 1)))), .q (.ld (.int .u8 y)), .q (.as (.bool false)), .q .p, .q .p, .q .p, .q .p, .q .p, .q .p, .q .no, .q .no, .q .p, .q .p] [0, 0, 0, 0, 0, 0, 0, 0, 0, 0, 0, 0, 0, 0, 0, 0, 0, 0, 0, 0, 0, 0, 0, 0, 0, 0, 0, 0, 0, 0, 0, 0, 0, 0, 0, 0, 0] [0, 0, 0, 0, 0, 0, 0, 0, 0, 0, 0, 0, 0, 0, 0, 0, 0, 0, 0, 0, 0, 0, 0, 0, 0, 0, 0, 0, 0, 0, 0, 0, 0, 0, 0, 0, 0] [0, 0, 0, 6, 14, 0, 0, 96, 224, 480, 1022, 2047, 4095, 8191, 16383, 32767, 32767, 32767, 229375, 491519, 32767, 32767, 3178495, 7372799, 16744447, 33521663, 67108863, 134217727, 268435455, 536870911, 1073741823, 2147483647, 4294967295, 8589934591, 17179869183, 34359738367, 68719476735] [] 0 ([(5, vt), (20, .slice (some ⟨tb, 0, none⟩) 3 3), (21, .slice (some ⟨xb, 0, none⟩) 3 3), (22, .slice bs 3 cp), (27, I6 ↑i), (28, I6 ↑k), (29, I6 ↑n), (153, .bool true), (30, .int .u8 y), (31, .bool true), (164, .bool true), (165, .slice (some ⟨xb, 0, none⟩) 3 3), (166, I6 ↑k), (167, (Po xb (0 + k * 1))), (168, I6 ↑j), (169, .slice (some ⟨tb, 0, none⟩) 3 3), (170, I6 ↑k), (171, (Po tb (0 + k * 1))), (172, tv), (173, I6 ↑tx.length), (174, .bool true), (175, .bool false), (176, .bool false), (177, .bool true), (178, .bool true), (179, .int .u8 y), (180, .slice (some ⟨tb, 0, none⟩) 3 3), (181, I6 ↑k), (182, (Po tb (0 + k * 1))), (183, tv), (184, .slice (some ⟨xb, 0, none⟩) 3 3), (185, I6 ↑k), (186, (Po xb (0 + k * 1))), (187, I6 ↑j), (188, (Po (bof tv) (oof tv + j * 1))), (189, .int .u8 y), (190, .bool false), (191, .bool false), (192, .bool false), (193, .bool false), (194, .bool true), (195, .bool false), (196, .bool false), (197, undef), (198, undef), (199, .bool false), (200, .bool false)]) [wn.drew] wn.drew (fun w' => [(3, [Ru Try.prog (vS (Instr.indexAt 51 (.slice (some ⟨xb, 0, none⟩) 3 3) (I6 ↑k))) ((Po xb (0 + k * 1))) w']), (4, [w'.cell? ⟨xb, 0 + k * 1, none⟩ = some (I6 ↑j)]), (7, [Ru Try.prog (vS (Instr.indexAt 71 (.slice (some ⟨tb, 0, none⟩) 3 3) (I6 ↑k))) ((Po tb (0 + k * 1))) w']), (8, [w'.cell? ⟨tb, 0 + k * 1, none⟩ = some (tv)]), (9, [Ru Try.prog (vS (Builtin.len_ #[23] 3 #[tv])) (I6 ↑tx.length) w']), (10, [Value.bool (decide ((↑j : Int) < ↑tx.length)) = .bool true]), (18, [Ru Try.prog (vS (Instr.indexAt 71 (.slice (some ⟨tb, 0, none⟩) 3 3) (I6 ↑k))) ((Po tb (0 + k * 1))) w']), (19, [w'.cell? ⟨tb, 0 + k * 1, none⟩ = some (tv)]), (22, [Ru Try.prog (vS (Instr.indexAt 51 (.slice (some ⟨xb, 0, none⟩) 3 3) (I6 ↑k))) ((Po xb (0 + k * 1))) w']), (23, [w'.cell? ⟨xb, 0 + k * 1, none⟩ = some (I6 ↑j)]), (24, [Ru Try.prog (vS (Instr.indexAt 23 (tv) (I6 ↑j))) ((Po (bof tv) (oof tv + j * 1))) w']), (25, [w'.cell? ⟨bof tv, oof tv + j * 1, none⟩ = some (.int .u8 y)]), (26, [Value.bool (((y : Int) != y)) = .bool false])]) [5, 20, 21, 22, 27, 28, 29, 153, 30, 31] [] hS (by kernel_rfl) (by kernel_rfl) (by kernel_rfl) (by kernel_rfl) (fun _ => by kernel_rfl) (by kernel_rfl) (by kernel_rfl) (by kernel_rfl) ?_ ?_ ?_
     ·intro e w' hw
      refine (.cons ?_ (.cons ?_ (.cons ?_ (.cons ?_ (.cons ?_ (.cons ?_ (.cons ?_ (.cons ?_ (.cons ?_ (.cons ?_ (.cons ?_ (.cons ?_ (.cons ?_ .nil)))))))))))))
      ·exact fun _ _ => (.cons (ix_slice (E := 3) (size := 1) (j := k) (by kernel_rfl) (by kernel_rfl) rfl (by omega)) .nil)
      ·intro h1 h2
       obtain rfl : e = 0 := Nat.le_antisymm h2 h1
       obtain rfl : w' = wn.drew := hw.trans (by kernel_rfl)
       exact (.cons ((hX3.drew : OwnR wn.drew 3 1 xb 3 3 (iv ats)).cellAt _ (by rw [Nat.zero_add, Nat.mul_one]; exact iv_at hat)) .nil)
      ·exact fun _ _ => (.cons (ix_slice (E := 23) (size := 1) (j := k) (by kernel_rfl) (by kernel_rfl) rfl (by omega)) .nil)
      ·intro h1 h2
       obtain rfl : e = 0 := Nat.le_antisymm h2 h1
       obtain rfl : w' = wn.drew := hw.trans (by kernel_rfl)
       exact (.cons ((hT3.drew : OwnR wn.drew 23 1 tb 3 3 ([.slice qb xs.length qc, .slice qb xs.length qc, .slice qb2 ys.length qc2])).cellAt _ (by simpa using htv)) .nil)
      ·exact fun _ _ => (.cons (run_len_rd (e := 5) hT.rd (by kernel_rfl)) .nil)
      ·exact fun _ _ => (.cons (as_t (by omega)) .nil)
      ·exact fun _ _ => (.cons (ix_slice (E := 23) (size := 1) (j := k) (by kernel_rfl) (by kernel_rfl) rfl (by omega)) .nil)
      ·intro h1 h2
       obtain rfl : e = 0 := Nat.le_antisymm h2 h1
       obtain rfl : w' = wn.drew := hw.trans (by kernel_rfl)
       exact (.cons ((hT3.drew : OwnR wn.drew 23 1 tb 3 3 ([.slice qb xs.length qc, .slice qb xs.length qc, .slice qb2 ys.length qc2])).cellAt _ (by simpa using htv)) .nil)
      ·exact fun _ _ => (.cons (ix_slice (E := 3) (size := 1) (j := k) (by kernel_rfl) (by kernel_rfl) rfl (by omega)) .nil)
      ·intro h1 h2
       obtain rfl : e = 0 := Nat.le_antisymm h2 h1
       obtain rfl : w' = wn.drew := hw.trans (by kernel_rfl)
       exact (.cons ((hX3.drew : OwnR wn.drew 3 1 xb 3 3 (iv ats)).cellAt _ (by rw [Nat.zero_add, Nat.mul_one]; exact iv_at hat)) .nil)
      ·exact fun _ _ => (.cons (ix_rd (e := 5) (j := j) hT.rd (by kernel_rfl) (by kernel_rfl) rfl (by omega)) .nil)
      ·intro h1 h2
       obtain rfl : e = 0 := Nat.le_antisymm h2 h1
       obtain rfl : w' = wn.drew := hw.trans (by kernel_rfl)
       exact (.cons ((hT.rd.ext0 (hEb3.trans0 (by first | exact (Ext.refl [] _).drew | exact Ext.refl [] _))).cellAt (j * 1) (by omega) (by rw [Nat.mul_one]; exact bv_at hy)) .nil)
      ·exact fun _ _ => (.cons (as_ne_f (rfl)) .nil)
     ·refine .nil
     rintro a w231 hS hw232
     replace hw232 : w231 = wn.drew := hw232.trans (by kernel_rfl)
     have hB233 := OwnR.at' hw232 (hT3.drew)
     have hB234 := OwnR.at' hw232 (hX3.drew)
     have hB235 := OwnV.at' hw232 (hO3.drew)
     have hE236 : Ext [] wb w231 := by rw [hw232]; exact hEb3.drew
     have hX237 : Ext [] wn w231 := by rw [hw232]; exact (Ext.refl _ _).drew
     have hG238 : RA wb.heap.size w30.heap.size w231 (ats.set k ((j + 1 : Nat) : Int)) [xs, xs, ys] (L.set k ⟨some r, B'⟩) := hRA3.ext0 hX237
     have hG239 : Rdr wb.heap.size w231 r B' (j + 1) (tx.drop (j + 1)) := hRdn.ext hX237 (by simp)
     replace hS := hS.kp [(5, vt), (20, .slice (some ⟨tb, 0, none⟩) 3 3), (21, .slice (some ⟨xb, 0, none⟩) 3 3), (22, .slice bs 3 cp), (27, I6 ↑i), (28, I6 ↑k), (29, I6 ↑n), (153, .bool true), (30, .int .u8 y), (31, .bool true), (200, .bool false)]
     refine hK229 _ _ ?_
     refine cond_f hS rfl ?_
     refine wpIn_skip ?_
     refine hK228 _ _ ?_
     refine sq fun K240 hK240 => ?_
     refine sq fun K241 hK241 => ?_
     refine rgn 1 ?_
     refine sg wide_wide [.p] [] [(5, vt), (20, .slice (some ⟨tb, 0, none⟩) 3 3), (21, .slice (some ⟨xb, 0, none⟩) 3 3), (22, .slice bs 3 cp), (27, I6 ↑i), (28, I6 ↑k), (29, I6 ↑n), (153, .bool true), (30, .int .u8 y), (31, .bool true), (200, .bool false), (201, .bool true)] 1 0 hS .nil fun a hS => ?_
     refine seg_end ?_
     refine hK241 _ _ ?_
     refine cond_t hS rfl ?_
     refine rgn 7 ?_
     refine sg wide_wide [.p, .p, .run ((Po xb (0 + k * 1))), .ld (I6 ↑j), .as (I6 ((j + 1 : Nat) : Int)), .run ((Po xb (0 + k * 1)))] [Ru Try.prog (vS (Instr.indexAt 51 (.slice (some ⟨xb, 0, none⟩) 3 3) (I6 ↑k))) ((Po xb (0 + k * 1))) w231, w231.cell? ⟨xb, 0 + k * 1, none⟩ = some (I6 ↑j), Value.int .i64 (IntKind.i64.wrap (↑j + 1)) = I6 ((j + 1 : Nat) : Int), Ru Try.prog (vS (Instr.indexAt 51 (.slice (some ⟨xb, 0, none⟩) 3 3) (I6 ↑k))) ((Po xb (0 + k * 1))) w231] [(5, vt), (20, .slice (some ⟨tb, 0, none⟩) 3 3), (21, .slice (some ⟨xb, 0, none⟩) 3 3), (22, .slice bs 3 cp), (27, I6 ↑i), (28, I6 ↑k), (29, I6 ↑n), (153, .bool true), (30, .int .u8 y), (31, .bool true), (200, .bool false), (201, .bool true), (206, I6 ((j + 1 : Nat) : Int)), (207, (Po xb (0 + k * 1)))] 6 1 hS (.cons (ix_slice (E := 3) (size := 1) (j := k) (by kernel_rfl) (by kernel_rfl) rfl (by omega)) (.cons ((hB234).cellAt _ (by rw [Nat.zero_add, Nat.mul_one]; exact iv_at hat)) (.cons ((by rw [show (↑j + 1 : Int) = ((j + 1 : Nat) : Int) from by omega]; exact as_i64 (by omega))) (.cons (ix_slice (E := 3) (size := 1) (j := k) (by kernel_rfl) (by kernel_rfl) rfl (by omega)) .nil)))) fun a hS => ?_
     refine eff_store_own wide_wide (r := 0) (b := xb) (off := 0 + k * 1) (u := Value.int .i64 ((j + 1 : Nat) : Int)) (xs := (iv ats)) hS (by kernel_rfl) hB234 (by omega) fun a ws242 hOs242 hEs242 hsz242 hS => ?_
     have hB243 := hB233.ext hEs242 (by simpa using (OwnR.neR hB233 hB234 (by decide)))
     have hB244 := hB235.ext hEs242 (fun x hx hm => by simp at hm; exact (OwnV.neR hB235 hB234 (by decide)) x hx hm.symm)
     have hE245 : Ext [] wb ws242 := hE236.trans hEs242 (fun b hb => by simp at hb; subst hb; exact .inr hXn)
     have hG246 : RA wb.heap.size w30.heap.size ws242 (ats.set k ((j + 1 : Nat) : Int)) [xs, xs, ys] (L.set k ⟨some r, B'⟩) := hG238.extN hEs242 (fun b hb => by simp at hb; subst hb; exact ⟨hXn, fun x hx hm => by have := hG238.kb x hx b hm; omega⟩)
     have hG247 : Rdr wb.heap.size ws242 r B' (j + 1) (tx.drop (j + 1)) := hG239.ext hEs242 (fun b hb => by simp at hb; subst hb; exact ⟨hXn, fun hm => by have := hBn b hm; omega⟩)
     refine seg_end ?_
     refine hK240 _ _ ?_
     refine sq fun K248 hK248 => ?_
     refine region_gh2 (G := World) wide_wide [.q .p, .q .p, .q (.run ((Po (bof (.slice bs 3 cp)) (0 + k * 1)))), .q (.ld ((Pv r))), .e, .q .p, .q .p, .q (.run ((Po xb (0 + k * 1)))), .q (.ld (I6 ((j + 1 : Nat) : Int))), .q (.as (.bool false))] [0, 0, 0, 0, 0, 0, 0, 0, 0, 1] [0, 0, 0, 0, 0, 1, 1, 1, 1, 1] [0, 0, 3, 7, 15, 0, 0, 96, 224, 511] [4] [(4, 0)] 1 (fun wc249 => ([(5, vt), (20, .slice (some ⟨tb, 0, none⟩) 3 3), (21, .slice (some ⟨xb, 0, none⟩) 3 3), (22, .slice bs 3 cp), (27, I6 ↑i), (28, I6 ↑k), (29, I6 ↑n), (153, .bool true), (30, .int .u8 y), (31, .bool true), (200, .bool false), (201, .bool true), (208, .slice bs 3 cp), (209, I6 ↑k), (210, (Po (bof (.slice bs 3 cp)) (0 + k * 1))), (211, (Pv r)), (212, I6 ((j + 1 : Nat) : Int)), (213, .slice (some ⟨xb, 0, none⟩) 3 3), (214, I6 ↑k), (215, (Po xb (0 + k * 1))), (216, I6 ((j + 1 : Nat) : Int)), (217, .bool false)] : Fm)) (fun wc249 => [ws242.drew, wc249]) (ws242.drew) (fun e wc249 => hAt [True, (Ext [] ws242.drew wc249) ∧ True] e) (fun wc249 w' => [(2, [Ru Try.prog (vS (Instr.indexAt 75 (.slice bs 3 cp) (I6 ↑k))) ((Po (bof (.slice bs 3 cp)) (0 + k * 1))) w']), (3, [w'.cell? ⟨bof (.slice bs 3 cp), 0 + k * 1, none⟩ = some ((Pv r))]), (7, [Ru Try.prog (vS (Instr.indexAt 51 (.slice (some ⟨xb, 0, none⟩) 3 3) (I6 ↑k))) ((Po xb (0 + k * 1))) w']), (8, [w'.cell? ⟨xb, 0 + k * 1, none⟩ = some (I6 ((j + 1 : Nat) : Int))]), (9, [Value.bool (((((j + 1 : Nat) : Int) : Int) != ((j + 1 : Nat) : Int))) = .bool false])]) ws242.drew [5, 20, 21, 22, 27, 28, 29, 153, 30, 31, 200, 201] [] hS (by kernel_rfl) (by kernel_rfl) (by kernel_rfl) (by kernel_rfl) (fun wc249 _ => by kernel_rfl) (by kernel_rfl) (by kernel_rfl) (by kernel_rfl) trivial ?_ (by kernel_rfl) ?_ ?_
     ·rintro e wc249 w' hw hH
      refine (.cons ?_ (.cons ?_ (.cons ?_ (.cons ?_ (.cons ?_ .nil)))))
      ·intro h1 h2
       obtain rfl : e = 0 := Nat.le_antisymm h2 h1
       have hwe : ws242.drew = w' := (hw.trans (by kernel_rfl)).symm
       subst hwe
       clear hH
       exact (.cons (ix_own (j := k) (hB244) (by kernel_rfl) (by kernel_rfl) rfl (by omega)) .nil)
      ·intro h1 h2
       obtain rfl : e = 0 := Nat.le_antisymm h2 h1
       have hwe : ws242.drew = w' := (hw.trans (by kernel_rfl)).symm
       subst hwe
       clear hH
       exact (.cons ((hB244.drew : OwnV ws242.drew 76 1 (.slice bs 3 cp) 3 (L.map Rr.v)).cellAt _ (by simp [hx0, Rr.v, hxp])) .nil)
      ·intro h1 h2
       replace h1 : 0 ≤ e := h1
       replace h2 : e ≤ 1 := h2
       have he : e = 0 ∨ e = 1 := by omega
       rcases he with rfl | rfl
       ·have hwe : ws242.drew = w' := (hw.trans (by kernel_rfl)).symm
        subst hwe
        clear hH
        exact (.cons (ix_slice (E := 3) (size := 1) (j := k) (by kernel_rfl) (by kernel_rfl) rfl (by omega)) .nil)
       ·have hwe : wc249 = w' := (hw.trans (by kernel_rfl)).symm
        subst hwe
        obtain ⟨hEc249, _⟩ := hH
        exact (.cons (ix_slice (E := 3) (size := 1) (j := k) (by kernel_rfl) (by kernel_rfl) rfl (by omega)) .nil)
      ·intro h1 h2
       replace h1 : 0 ≤ e := h1
       replace h2 : e ≤ 1 := h2
       have he : e = 0 ∨ e = 1 := by omega
       rcases he with rfl | rfl
       ·have hwe : ws242.drew = w' := (hw.trans (by kernel_rfl)).symm
        subst hwe
        clear hH
        exact (.cons ((hOs242.drew : OwnR ws242.drew 3 1 xb 3 3 ((iv ats).set (0 + k * 1) (Value.int .i64 ((j + 1 : Nat) : Int)))).cellAt _ (by rw [List.getElem?_set_self (by simp [iv]; omega)])) .nil)
       ·have hwe : wc249 = w' := (hw.trans (by kernel_rfl)).symm
        subst hwe
        obtain ⟨hEc249, _⟩ := hH
        exact (.cons (((hOs242.drew : OwnR ws242.drew 3 1 xb 3 3 ((iv ats).set (0 + k * 1) (Value.int .i64 ((j + 1 : Nat) : Int)))).ext hEc249 (by simp) : OwnR wc249 3 1 xb 3 3 ((iv ats).set (0 + k * 1) (Value.int .i64 ((j + 1 : Nat) : Int)))).cellAt _ (by rw [List.getElem?_set_self (by simp [iv]; omega)])) .nil)
      ·intro h1 h2
       obtain rfl : e = 1 := Nat.le_antisymm h2 h1
       have hwe : wc249 = w' := (hw.trans (by kernel_rfl)).symm
       subst hwe
       obtain ⟨hEc249, _⟩ := hH
       exact (.cons (as_ne_f (rfl)) .nil)
     ·refine (.cons ?eq250_4 .nil)
      ·rintro wc249 hH
       clear hH
       refine eff_gh (ws242.drew) (by kernel_rfl) ?_
       refine upon_call (f := 39) (vs := [(Pv r)]) (cap := #[]) (d := (some 212)) (by kernel_rfl) Try.call39 #[(Pv r)] (by kernel_rfl) (At_Q (hG247.ext ((Ext.refl [] _).drew) (by simp))) ?_
       rintro _ wc249 ⟨rfl, hEc249⟩
       exact ⟨_, rfl, ⟨wc249, by kernel_rfl, by kernel_rfl, by kernel_rfl, ⟨hEc249, trivial⟩⟩⟩
     rintro wc249 a w251 hS hw252 hH
     obtain ⟨hEc249, _⟩ := hH
     replace hw252 : w251 = wc249 := hw252.trans (by kernel_rfl)
     have hB253 := OwnR.at' hw252 ((hB243.drew : OwnR ws242.drew 23 1 tb 3 3 ([.slice qb xs.length qc, .slice qb xs.length qc, .slice qb2 ys.length qc2])).ext hEc249 (by simp))
     have hB254 := OwnV.at' hw252 ((hB244.drew : OwnV ws242.drew 76 1 (.slice bs 3 cp) 3 (L.map Rr.v)).ext hEc249 (by simp))
     have hB255 := OwnR.at' hw252 ((hOs242.drew : OwnR ws242.drew 3 1 xb 3 3 ((iv ats).set (0 + k * 1) (Value.int .i64 ((j + 1 : Nat) : Int)))).ext hEc249 (by simp))
     have hE256 : Ext [] wb w251 := by rw [hw252]; exact (hE245.drew).trans0 hEc249
     have hX257 : Ext [] ws242 w251 := by rw [hw252]; exact ((Ext.refl _ _).drew).trans0 hEc249
     have hG258 : RA wb.heap.size w30.heap.size w251 (ats.set k ((j + 1 : Nat) : Int)) [xs, xs, ys] (L.set k ⟨some r, B'⟩) := hG246.ext0 hX257
     have hG259 : Rdr wb.heap.size w251 r B' (j + 1) (tx.drop (j + 1)) := hG247.ext hX257 (by simp)
     replace hS := hS.kp [(5, vt), (20, .slice (some ⟨tb, 0, none⟩) 3 3), (21, .slice (some ⟨xb, 0, none⟩) 3 3), (22, .slice bs 3 cp), (27, I6 ↑i), (28, I6 ↑k), (29, I6 ↑n), (153, .bool true), (30, .int .u8 y), (31, .bool true), (200, .bool false), (201, .bool true), (217, .bool false)]
     refine hK248 _ _ ?_
     refine cond_f hS rfl ?_
     refine wpIn_skip ?_
     refine inBlock_normal ?_
     refine hK199 _ _ ?_
     refine rgn 3 ?_
     refine sg wide_wide [.p, .as (I6 (↑n + 1)), .p] [Value.int .i64 (IntKind.i64.wrap (↑n + 1)) = I6 (↑n + 1)] [(5, vt), (20, .slice (some ⟨tb, 0, none⟩) 3 3), (21, .slice (some ⟨xb, 0, none⟩) 3 3), (22, .slice bs 3 cp), (27, I6 ↑i), (28, I6 ↑k), (29, I6 (↑n + 1)), (153, .bool true), (30, .int .u8 y), (31, .bool true), (200, .bool false), (201, .bool true), (217, .bool false)] 3 0 hS (.cons (as_i64 (by omega)) .nil) fun a hS => ?_
     refine seg_end ?_
     have hXf : OwnR w251 3 1 xb 3 3 (iv (ats.set k ((j + 1 : Nat) : Int))) := by
      have h := hB255
      rw [← iv_set]; simpa using h
     exact ⟨(n + 1, (ats.set k ((j + 1 : Nat) : Int)), (L.set k ⟨some r, B'⟩)), ⟨hS.kp [(5, vt), (20, .slice (some ⟨tb, 0, none⟩) 3 3), (21, .slice (some ⟨xb, 0, none⟩) 3 3), (22, .slice bs 3 cp), (27, I6 ↑i), (28, I6 ↑k), (29, I6 (↑n + 1))], by omega, by simpa using hL3, by simpa using ha3, hB253, hXf, by rw [map_v_set hx0 hxp]; exact hB254, hG258, hE256⟩, by simp only; omega⟩
  ·
   replace hb193 := of_decide_eq_false hb193
   refine wpIn_exit ?_
   refine then_exit ?_
   refine then_exit ?_
   refine inBlock_hit ?_
   refine hK189 _ _ ?_
   refine sq fun K260 hK260 => ?_
   refine rgn 1 ?_
   refine sg wide_wide [.p] [] [(5, vt), (20, .slice (some ⟨tb, 0, none⟩) 3 3), (21, .slice (some ⟨xb, 0, none⟩) 3 3), (22, .slice bs 3 cp), (27, I6 ↑i), (12, .bool true)] 1 0 hS .nil fun a hS => ?_
   refine seg_end ?_
   refine hK260 _ _ ?_
   refine wpIn_ret ?_
   refine ret1 hS Try.results11 rfl ?_
   exact ⟨rfl, hEw.trans0 hEb⟩

end Go.Proofs.Ytkdbfjomjlhfbaa
