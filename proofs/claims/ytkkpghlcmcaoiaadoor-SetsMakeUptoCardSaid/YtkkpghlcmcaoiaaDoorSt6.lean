/- The members of a set, rising. No program. -/
import Derived.Test.YtkkpghlcmcaoiaaDoorSt5
namespace Go.Proofs.YtkkpghlcmcaoiaaDoor
open Go.Vc Go.Gm

def bl1 (x : Nat) : List Nat := (List.range 64).filter fun j => x.testBit j
theorem filter_least {p q : Nat → Bool} {c : Nat} (h1 : ∀ j, j < c → p j = false) (h2 : p c = true) (h3 : ∀ j, j ≤ c → q j = false) (h4 : ∀ j, c < j → q j = p j) : ∀ n, (List.range n).filter p = (if c < n then [c] else []) ++ (List.range n).filter q
  | 0 => by simp
  | n + 1 => by
    have ih := filter_least h1 h2 h3 h4 n
    rw [List.range_succ, List.filter_append, List.filter_append, ih]
    rcases Nat.lt_trichotomy n c with h | h | h
    · rw [if_neg (by omega), if_neg (by omega)]
      simp [h1 n h, h3 n (by omega)]
    · subst h
      rw [if_neg (by omega), if_pos (by omega)]
      have hq : (List.range n).filter q = [] := by
        rw [List.filter_eq_nil_iff]
        intro j hj
        rw [h3 j (by have := List.mem_range.1 hj; omega)]
        simp
      simp [h2, h3 n (Nat.le_refl _), hq]
    · rw [if_pos h, if_pos (by omega), List.append_assoc]
      congr 2
      simp only [List.filter_cons, List.filter_nil, h4 n h]
theorem tb_add {c a i : Nat} (hi : i < 2 ^ c) (j : Nat) : (2 ^ c * a + i).testBit j = if j < c then i.testBit j else a.testBit (j - c) := Nat.testBit_two_pow_mul_add a hi j
theorem bl1_step {x : Nat} (h0 : x ≠ 0) (hx : x < 18446744073709551616) : bl1 x = Lib.ctz 64 x :: bl1 (x &&& (x - 1)) ∧ x &&& (x - 1) < x := by
  obtain ⟨m, hm, hc⟩ := Lib.ctzFrom_spec 64 x (by omega) hx
  have hcz : Lib.ctzFrom 64 x = Lib.ctz 64 x := by unfold Lib.ctz; rw [if_neg (by simpa using h0)]
  rw [hcz] at hm hc
  generalize Lib.ctz 64 x = c at hm hc ⊢
  have hp : 0 < 2 ^ c := Nat.two_pow_pos c
  have hx1 : x = 2 ^ c * (2 * m + 1) + 0 := by omega
  have e : 2 ^ c * (2 * m + 1) = 2 ^ c * (2 * m) + 2 ^ c := by rw [Nat.mul_add, Nat.mul_one]
  have hx2 : x - 1 = 2 ^ c * (2 * m) + (2 ^ c - 1) := by omega
  have t1 : ∀ j, x.testBit j = if j < c then false else (2 * m + 1).testBit (j - c) := fun j => by
    rw [hx1, tb_add hp]
    split
    · rw [Nat.zero_testBit]
    · rfl
  have t2 : ∀ j, c ≤ j → (x - 1).testBit j = (2 * m).testBit (j - c) := fun j hj => by
    rw [hx2, tb_add (by omega), if_neg (by omega)]
  refine ⟨?_, ?_⟩
  · unfold bl1
    rw [filter_least (p := fun j => x.testBit j) (q := fun j => (x &&& (x - 1)).testBit j) (c := c) (fun j hj => by simp only [t1, if_pos hj]) (by simp [t1]) ?_ ?_ 64, if_pos hc]
    · rfl
    · intro j hj
      simp only [Nat.testBit_and]
      rcases Nat.lt_or_ge j c with h | h
      · rw [t1, if_pos h, Bool.false_and]
      · have : j = c := by omega
        subst this
        rw [t2 j (Nat.le_refl _), Nat.sub_self]
        simp
    · intro j hj
      simp only [Nat.testBit_and]
      rw [t1, if_neg (by omega), t2 j (by omega)]
      obtain ⟨k, hk⟩ : ∃ k, j - c = k + 1 := ⟨j - c - 1, by omega⟩
      rw [hk, Nat.testBit_succ, Nat.testBit_succ]
      rw [show (2 * m + 1) / 2 = m by omega, show 2 * m / 2 = m by omega, Bool.and_self]
  · have : x &&& (x - 1) ≤ x - 1 := Nat.and_le_right
    omega
theorem bl1_zero : bl1 0 = [] := by
  unfold bl1
  rw [List.filter_eq_nil_iff]
  intro j _
  simp
def sh (i x : Nat) : List Nat := (bl1 x).map fun j => 64 * i + j
theorem sh_step {i x : Nat} (h0 : x ≠ 0) (hx : x < 18446744073709551616) : sh i x = (64 * i + Lib.ctz 64 x) :: sh i (x &&& (x - 1)) := by
  unfold sh
  rw [(bl1_step h0 hx).1]; rfl
theorem sh_zero (i : Nat) : sh i 0 = [] := by unfold sh; rw [bl1_zero]; rfl
/-- the members, rising -/
def tls (s : Se) : List Nat := sh 0 s.1 ++ sh 1 s.2
def wd (s : Se) (i : Nat) : Nat := if i = 0 then s.1 else s.2
def rst (s : Se) (i : Nat) : List Nat := if i = 0 then tls s else if i = 1 then sh 1 s.2 else []
theorem rst_step {s : Se} {i : Nat} (h : i < 2) : rst s i = sh i (wd s i) ++ rst s (i + 1) := by
  rcases (show i = 0 ∨ i = 1 by omega) with rfl | rfl
  · rfl
  · simp [rst, wd]
theorem wd_lt {s : Se} (h : s.ok) (i : Nat) : wd s i < 18446744073709551616 := by
  unfold wd
  split
  · exact h.a
  · exact h.b
theorem mem_bl1 {x j : Nat} : j ∈ bl1 x ↔ j < 64 ∧ x.testBit j = true := by
  unfold bl1
  rw [List.mem_filter, List.mem_range]
theorem mem_tls {s : Se} {t : Nat} (h : s.ok) : t ∈ tls s ↔ has s t = true := by
  unfold tls sh has
  rw [List.mem_append, List.mem_map, List.mem_map]
  constructor
  · rintro (⟨j, hj, rfl⟩ | ⟨j, hj, rfl⟩)
    · obtain ⟨h1, h2⟩ := mem_bl1.1 hj
      rw [if_pos (by omega)]; simpa using h2
    · obtain ⟨h1, h2⟩ := mem_bl1.1 hj
      rw [if_neg (by omega), show 64 * 1 + j - 64 = j by omega]; exact h2
  · split
    · rename_i h1
      intro h2
      exact .inl ⟨t, mem_bl1.2 ⟨h1, h2⟩, by omega⟩
    · rename_i h1
      intro h2
      refine .inr ⟨t - 64, mem_bl1.2 ⟨?_, h2⟩, by omega⟩
      rcases Nat.lt_or_ge (t - 64) 64 with h3 | h3
      · exact h3
      · have := Nat.testBit_lt_two_pow (x := s.2) (i := t - 64) (Nat.lt_of_lt_of_le h.b (show 2 ^ 64 ≤ 2 ^ (t - 64) from Nat.pow_le_pow_right (by omega) h3))
        rw [this] at h2; cases h2
theorem tls_len (s : Se) : (tls s).length ≤ 128 := by
  have h : ∀ x, (bl1 x).length ≤ 64 := fun x => by
    have := List.length_filter_le (fun j => x.testBit j) (List.range 64)
    rw [List.length_range] at this; exact this
  have h1 := h s.1
  have h2 := h s.2
  unfold tls sh
  rw [List.length_append, List.length_map, List.length_map]
  omega
/-- rising -/
def Rising (l : List Nat) : Prop := l.Pairwise (· < ·)
theorem bl1_rising (x : Nat) : Rising (bl1 x) := List.Pairwise.filter _ List.pairwise_lt_range
theorem tls_rising (s : Se) : Rising (tls s) := by
  unfold Rising tls sh
  rw [List.pairwise_append]
  refine ⟨List.Pairwise.map _ (fun a b h => by omega) (bl1_rising s.1), List.Pairwise.map _ (fun a b h => by omega) (bl1_rising s.2), ?_⟩
  intro a ha b hb
  obtain ⟨j, hj, rfl⟩ := List.mem_map.1 ha
  obtain ⟨k, hk, rfl⟩ := List.mem_map.1 hb
  have := (mem_bl1.1 hj).1
  omega
theorem Rising.ext : ∀ {a b : List Nat}, Rising a → Rising b → (∀ t, t ∈ a ↔ t ∈ b) → a = b
  | [], [], _, _, _ => rfl
  | [], y :: b, _, _, h => by have := (h y).2 (by simp); simp at this
  | x :: a, [], _, _, h => by have := (h x).1 (by simp); simp at this
  | x :: a, y :: b, ha, hb, h => by
    obtain ⟨ha1, ha2⟩ := List.pairwise_cons.1 ha
    obtain ⟨hb1, hb2⟩ := List.pairwise_cons.1 hb
    have hxy : x = y := by
      rcases Nat.lt_trichotomy x y with h1 | h1 | h1
      · have := (h x).1 (by simp)
        rcases List.mem_cons.1 this with h2 | h2
        · exact h2
        · have := hb1 x h2; omega
      · exact h1
      · have := (h y).2 (by simp)
        rcases List.mem_cons.1 this with h2 | h2
        · exact h2.symm
        · have := ha1 y h2; omega
    subst hxy
    congr 1
    refine Rising.ext ha2 hb2 fun t => ?_
    constructor
    · intro ht
      rcases List.mem_cons.1 ((h t).1 (by simp [ht])) with h2 | h2
      · have := ha1 t ht; omega
      · exact h2
    · intro ht
      rcases List.mem_cons.1 ((h t).2 (by simp [ht])) with h2 | h2
      · have := hb1 t ht; omega
      · exact h2
end Go.Proofs.YtkkpghlcmcaoiaaDoor
