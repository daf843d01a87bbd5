import Derived.Test.YtkkpghlcmcaoiaaDoorS41
namespace Go.Proofs.YtkkpghlcmcaoiaaDoor
open Go.Vc Go.Gm
section
variable {S : Sp}
structure RcQ (S : Sp) (i : Nat) (n0 : List Bool) (x : RcX) (gr : Bool) : Prop where
 snd : RcS S x
 cl : gr = false → x.1 = n0 ∧ ∀ j, j < i → RcC S j x
 lt : gr = true → falses x.1 < falses n0
structure RcJ (S : Sp) (i : Nat) (p : Pd) (k : Nat) (n0 : List Bool) (x : RcX) (gr : Bool) : Prop where
 h : RcQ S i n0 x gr
 l : on x.1 p.l.toNat
 d : gr = false → ∀ y ∈ (row p.r).take k, rcOn x y
theorem RcQ.start {x : RcX} (h : RcS S x) : RcQ S 0 x.1 x false := ⟨h, fun _ => ⟨rfl, fun j hj => by omega⟩, fun h => by cases h⟩
theorem RcQ.more {i : Nat} {n0 : List Bool} {x : RcX} {gr : Bool} (h : RcQ S i n0 x gr) : 2 * falses x.1 + gr.toNat < 2 * falses n0 + true.toNat := by
 cases gr with
 | false => rw [(h.cl rfl).1]; simp
 | true => have := h.lt rfl; omega
theorem RcQ.pass {i : Nat} {n0 : List Bool} {x : RcX} {gr : Bool} (h : RcQ S i n0 x gr) {p : Pd} (hi : S.ps[i]? = some p) (ho : x.1[p.l.toNat]? = some false) : RcQ S (i + 1) n0 x gr :=
 ⟨h.snd, fun hg => ⟨(h.cl hg).1, fun j hj => by
  rcases Nat.lt_succ_iff_lt_or_eq.1 hj with h1 | h1
  ·exact (h.cl hg).2 j h1
  ·rw [h1]; intro q hq hl; rw [hi] at hq; cases hq; exact absurd hl (off_of ho)⟩, h.lt⟩
theorem RcJ.start {i : Nat} {p : Pd} {n0 : List Bool} {x : RcX} {gr : Bool} (h : RcQ S i n0 x gr) (hl : x.1[p.l.toNat]? = some true) : RcJ S i p 0 n0 x gr := ⟨h, hl, fun _ y hy => by simp at hy⟩
theorem RcJ.pass {i k : Nat} {p : Pd} {n0 : List Bool} {x : RcX} {gr : Bool} (h : RcJ S i p k n0 x gr) {y : Sy} (hk : p.r[k]? = some y) (ho : rcOn x (sm y)) : RcJ S i p (k + 1) n0 x gr :=
 ⟨h.h, h.l, fun hg z hz => (take_row hk hz).elim (h.d hg z) fun e => e ▸ ho⟩
theorem RcJ.m1 {i k : Nat} {p : Pd} {n0 : List Bool} {x : RcX} {gr : Bool} (h : RcJ S i p k n0 x gr) (hp : p ∈ S.ps) {y : Sy} (hy : y ∈ p.r) (h3 : sm y = .m y.2.toNat) (hb : y.2.toNat < S.ns.length) (ho : x.1[y.2.toNat]? = some false) : RcJ S i p (k + 1) n0 (x.1.set y.2.toNat true, x.2) true := by
 have hlen := h.h.snd.l1
 refine ⟨⟨h.h.snd.m1 hp h.l hy h3 hb, fun h => (by cases h), fun _ => ?_⟩, (on_set (by omega)).2 (.inr h.l), fun h => (by cases h)⟩
 have h1 := count_on ho
 have h2 : falses x.1 ≤ falses n0 := by
  cases gr with
  | false => rw [(h.h.cl rfl).1]; exact Nat.le_refl _
  | true => exact Nat.le_of_lt (h.h.lt rfl)
 exact Nat.lt_of_lt_of_le h1 h2
theorem rcOn_mono {n r : List Bool} {t : Nat} (ht : t < r.length) {y : Sm} (h : rcOn (n, r) y) : rcOn (n, r.set t true) y := by
 cases y with
 | e => trivial
 | m B => exact h
 | t j => exact (on_set ht).2 (.inr h)
theorem RcJ.m2 {i k : Nat} {p : Pd} {n0 n r : List Bool} {gr : Bool} (h : RcJ S i p k n0 (n, r) gr) (hp : p ∈ S.ps) {y : Sy} (hk : p.r[k]? = some y) (h3 : sm y = .t y.2.toNat) (hb : y.2.toNat < S.lx.length) : RcJ S i p (k + 1) n0 (n, r.set y.2.toNat true) gr := by
 have hlen : r.length = S.lx.length := h.h.snd.l2
 refine ⟨⟨h.h.snd.m2 hp h.l (List.mem_of_getElem? hk) h3 hb, fun hg => ⟨(h.h.cl hg).1, fun j hj q hq hl z hz => rcOn_mono (by omega) ((h.h.cl hg).2 j hj q hq hl z hz)⟩, h.h.lt⟩, h.l, fun hg z hz => ?_⟩
 rcases take_row hk hz with h1 | h1
 ·exact rcOn_mono (by omega) (h.d hg z h1)
 ·rw [h1, h3]; exact (on_set (by omega)).2 (.inl rfl)
theorem RcJ.done {i : Nat} {p : Pd} {n0 : List Bool} {x : RcX} {gr : Bool} (h : RcJ S i p p.r.length n0 x gr) (hi : S.ps[i]? = some p) : RcQ S (i + 1) n0 x gr :=
 ⟨h.h.snd, fun hg => ⟨(h.h.cl hg).1, fun j hj => by
  rcases Nat.lt_succ_iff_lt_or_eq.1 hj with h1 | h1
  ·exact (h.h.cl hg).2 j h1
  ·rw [h1]; intro q hq _ y hy; rw [hi] at hq; cases hq
   exact h.d hg y (by rw [List.take_of_length_le (by rw [row_len]; exact Nat.le_refl _)]; exact hy)⟩, h.h.lt⟩
/-! ### the least empty trees: none is 0 -/
def zv (v : Nat) : Nat := if v = 257 then 0 else v
def zvL (vs : List Nat) : List Nat := vs.map zv
theorem zv_top : zv 257 = 0 := rfl
theorem zv_ne {v : Nat} (h : v ≠ 257) : zv v = v := if_neg h
theorem zv_at {vs : List Nat} {j v : Nat} (h : vs[j]? = some v) : (ivs (zvL vs))[0 + j * 1]? = some (I6 (zv v : Int)) := ivs_at (by rw [zvL, List.getElem?_map, h]; rfl)
theorem zv_set {vs : List Nat} {j m : Nat} (h : m ≠ 257) : (ivs (zvL vs)).set (0 + j * 1) (I6 (m : Int)) = ivs (zvL (vs.set j m)) := by
 rw [ivs_set, zvL, zvL, List.map_set, zv_ne h]
theorem zv_len (vs : List Nat) : (ivs (zvL vs)).length = vs.length := by rw [ivs_len, zvL, List.length_map]
theorem zv_rep (n : Nat) : List.replicate (n * 1) (Value.int .i64 0) = ivs (zvL (List.replicate n 257)) := by
 rw [Nat.mul_one, zvL, List.map_replicate, zv_top, ← ivs_rep]; rfl
theorem SmS.pos {vs : List Nat} (h : SmS S 1 257 257 vs) {A v : Nat} (hv : vs[A]? = some v) : v ≤ 257 ∧ 1 ≤ v := by
 have h1 := h.le A
 rw [vf_at hv] at h1
 refine ⟨h1, ?_⟩
 rcases Nat.lt_or_ge v 257 with h2 | h2
 ·obtain ⟨q, i, _, _, h3⟩ := h.snd A (by rw [vf_at hv]; exact h2)
  rw [vf_at hv] at h3; omega
 ·omega
theorem IsC.pos1 {vs : List Nat} (h : IsC S.g 1 257 257 (vf 257 vs)) {A v : Nat} (hv : vs[A]? = some v) : v ≤ 257 ∧ 1 ≤ v := by
 have h1 := h.le A
 rw [vf_at hv] at h1
 refine ⟨h1, ?_⟩
 rcases Nat.lt_or_ge v 257 with h2 | h2
 ·obtain ⟨q, i, _, _, h3⟩ := h.snd A (by rw [vf_at hv]; exact h2)
  rw [vf_at hv] at h3; omega
 ·omega
end
end Go.Proofs.YtkkpghlcmcaoiaaDoor
