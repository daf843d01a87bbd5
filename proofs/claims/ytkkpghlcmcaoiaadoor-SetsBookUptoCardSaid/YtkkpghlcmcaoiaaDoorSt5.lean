import Derived.Test.YtkkpghlcmcaoiaaDoorSt
import Derived.Lib.TrailingZeros
namespace Go.Proofs.YtkkpghlcmcaoiaaDoor
open Go.Vc Go.Gm
abbrev Se := Nat × Nat
structure Se.ok (s : Se) : Prop where
 a : s.1 < 18446744073709551616
 b : s.2 < 18446744073709551616
def has (s : Se) (t : Nat) : Bool := if t < 64 then s.1.testBit t else s.2.testBit (t - 64)
def un (s o : Se) : Se := (s.1 ||| o.1, s.2 ||| o.2)
def sgl (t : Nat) : Se := if t < 64 then (2 ^ t, 0) else (0, 2 ^ (t - 64))
theorem has_un (s o : Se) (t : Nat) : has (un s o) t = (has s t || has o t) := by
 unfold has un
 split <;> rw [Nat.testBit_or]
theorem has_none (t : Nat) : has (0, 0) t = false := by
 unfold has
 split <;> rw [Nat.zero_testBit]
theorem has_sgl {t : Nat} (u : Nat) : has (sgl t) u = decide (u = t) := by
 unfold has sgl
 by_cases h : t < 64
 ·rw [if_pos h]
  split
  ·rw [Nat.testBit_two_pow]; exact decide_eq_decide.2 ⟨Eq.symm, Eq.symm⟩
  ·rw [Nat.zero_testBit]; exact (decide_eq_false (by omega)).symm
 ·rw [if_neg h]
  split
  ·rw [Nat.zero_testBit]; exact (decide_eq_false (by omega)).symm
  ·rw [Nat.testBit_two_pow]; exact decide_eq_decide.2 ⟨fun h1 => by omega, fun h1 => by omega⟩
theorem ok_un {s o : Se} (h : s.ok) (h' : o.ok) : (un s o).ok := ⟨Nat.or_lt_two_pow (n := 64) h.a h'.a, Nat.or_lt_two_pow (n := 64) h.b h'.b⟩
theorem ok_none : Se.ok (0, 0) := ⟨by decide, by decide⟩
theorem ok_sgl {t : Nat} (h : t < 128) : (sgl t).ok := by
 have key : ∀ k, k < 64 → 2 ^ k < 18446744073709551616 := fun k hk => Nat.pow_lt_pow_right (a := 2) (n := 64) (by omega) hk
 unfold sgl
 split
 ·rename_i h1; exact ⟨key t h1, show 0 < 18446744073709551616 by decide⟩
 ·exact ⟨show 0 < 18446744073709551616 by decide, key _ (by omega)⟩
theorem un_none (s : Se) : un (0, 0) s = s := by unfold un; simp
theorem un_assoc (s o p : Se) : un (un s o) p = un s (un o p) := by unfold un; rw [Nat.or_assoc, Nat.or_assoc]
def muE (s : Se) : Nat := (18446744073709551616 - s.1) + (18446744073709551616 - s.2)
theorem mu_un {s o : Se} (ho : (un s o).ok) (h : un s o ≠ s) : muE (un s o) < muE s := by
 have h1 : s.1 ≤ s.1 ||| o.1 := Nat.left_le_or
 have h2 : s.2 ≤ s.2 ||| o.2 := Nat.left_le_or
 have h3 := ho.a
 have h4 := ho.b
 have h5 : ¬(s.1 ||| o.1 = s.1 ∧ s.2 ||| o.2 = s.2) := fun ⟨e1, e2⟩ => h (Prod.ext e1 e2)
 unfold muE
 simp only [un] at h3 h4 ⊢
 omega
def muF (fs : List Se) : Nat := (fs.map muE).sum
theorem muF_set {fs : List Se} {A : Nat} {s o : Se} (hs : fs[A]? = some s) (ho : (un s o).ok) (h : un s o ≠ s) : muF (fs.set A (un s o)) < muF fs := by
 unfold muF
 rw [List.map_set]
 exact sum_set_lt (by rw [List.getElem?_map, hs]; rfl) (mu_un ho h)
def secs (l : List Se) : List Value := l.flatMap fun s => [.int .u64 (s.1 : Int), .int .u64 (s.2 : Int)]
theorem secs_at {l : List Se} {j i : Nat} {s : Se} (h : l[j]? = some s) (hi : i < 2) : (secs l)[j * 2 + i]? = [Value.int .u64 (s.1 : Int), .int .u64 (s.2 : Int)][i]? := flat_at (k := 2) (fun _ => rfl) l j i s h hi
theorem secs_len (l : List Se) : (secs l).length = l.length * 2 := flat_len (k := 2) (fun _ => rfl) l
theorem secs_rep : ∀ n : Nat, List.replicate (n * 2) (Value.int .u64 0) = secs (List.replicate n (0, 0))
 | 0 => rfl
 | n + 1 => by
  rw [Nat.add_mul, Nat.one_mul, show n * 2 + 2 = (n * 2 + 1) + 1 from rfl, List.replicate_succ, List.replicate_succ, secs_rep n]
  rfl
theorem secs_set : ∀ (l : List Se) (j : Nat) (s : Se), j < l.length → ((secs l).set (j * 2) (.int .u64 (s.1 : Int))).set (j * 2 + 1) (.int .u64 (s.2 : Int)) = secs (l.set j s)
 | [], j, s, h => by simp at h
 | x :: l, 0, s, _ => rfl
 | x :: l, j + 1, s, h => by
  have ih := secs_set l j s (by simpa using h)
  rw [List.set_cons_succ]
  show _ = [_, _] ++ secs (l.set j s)
  rw [← ih, Nat.add_mul, Nat.one_mul]
  rfl
/-! ### with what rows begin -/
def gF (fs : List Se) (A : Nat) : Se := fs[A]?.getD (0, 0)
def gB (bs : List Bool) (A : Nat) : Bool := bs[A]?.getD false
theorem gB_on {bs : List Bool} {A : Nat} : gB bs A = true ↔ on bs A := by
 unfold gB on
 cases bs[A]? with
 | none => simp
 | some b => simp
def hdS (nl : Nat) (fs : List Se) (es : List Bool) : List Sm → Se × Bool
 | [] => ((0, 0), true)
 | .t n :: _ => (sgl n, false)
 | .e :: _ => (sgl nl, false)
 | .m A :: r => if gB es A = true then (un (gF fs A) (hdS nl fs es r).1, (hdS nl fs es r).2) else (gF fs A, false)
def hF (fs : List Se) (A t : Nat) : Prop := has (gF fs A) t = true
theorem hdS_has {nl : Nat} {fs : List Se} {es : List Bool} : ∀ {r : List Sm} {t : Nat}, has (hdS nl fs es r).1 t = true ↔ Hd nl (hF fs) (on es) r t
 | [], t => by simp [hdS, Hd, has_none]
 | .t n :: r, t => by simp [hdS, Hd, has_sgl]
 | .e :: r, t => by simp [hdS, Hd, has_sgl]
 | .m A :: r, t => by
  have ih := hdS_has (nl := nl) (fs := fs) (es := es) (r := r) (t := t)
  rw [hdS, Hd]
  split
  ·rename_i h
   rw [has_un, Bool.or_eq_true, ih]
   exact ⟨fun h1 => h1.imp id fun h2 => ⟨gB_on.1 h, h2⟩, fun h1 => h1.imp id fun h2 => h2.2⟩
  ·rename_i h
   exact ⟨.inl, fun h1 => h1.elim id fun h2 => absurd (gB_on.2 h2.1) h⟩
theorem hdS_em {nl : Nat} {fs : List Se} {es : List Bool} : ∀ {r : List Sm}, (hdS nl fs es r).2 = true ↔ Em (on es) r
 | [] => by simp [hdS, Em]
 | .t n :: r => by simp [hdS, Em]
 | .e :: r => by simp [hdS, Em]
 | .m A :: r => by
  have ih := hdS_em (nl := nl) (fs := fs) (es := es) (r := r)
  rw [hdS, Em]
  split
  ·rename_i h
   rw [ih]
   exact ⟨fun h1 => ⟨gB_on.1 h, h1⟩, fun h1 => h1.2⟩
  ·rename_i h
   constructor
   ·intro h1; cases h1
   ·intro h1; exact absurd (gB_on.2 h1.1) h
theorem Hd_mono {nl : Nat} {F F' : Nat → Nat → Prop} {E E' : Nat → Prop} (h1 : ∀ A t, F A t → F' A t) (h2 : ∀ A, E A → E' A) : ∀ {r : List Sm} {t : Nat}, Hd nl F E r t → Hd nl F' E' r t
 | [], _, h => h
 | .t _ :: _, _, h => h
 | .e :: _, _, h => h
 | .m _ :: _, _, h => h.imp (h1 _ _) fun h => ⟨h2 _ h.1, Hd_mono h1 h2 h.2⟩
def Sml (nl : Nat) (r : List Sm) : Prop := nl < 127 ∧ ∀ n, Sm.t n ∈ r → n < 128
theorem hdS_ok {nl : Nat} {fs : List Se} {es : List Bool} (hf : ∀ s ∈ fs, Se.ok s) : ∀ {r : List Sm}, Sml nl r → ((hdS nl fs es r).1).ok
 | [], _ => ok_none
 | .t n :: r, h => ok_sgl (h.2 n (by simp))
 | .e :: r, h => ok_sgl (by have := h.1; omega)
 | .m A :: r, h => by
  have ih := hdS_ok (nl := nl) (fs := fs) (es := es) hf (r := r) ⟨h.1, fun n hn => h.2 n (by simp [hn])⟩
  have hA : (gF fs A).ok := by
   unfold gF
   cases hx : fs[A]? with
   | none => exact ok_none
   | some s => exact hf s (List.mem_of_getElem? hx)
  rw [hdS]
  split
  ·exact ok_un hA ih
  ·exact hA
theorem gF_at {fs : List Se} {A : Nat} {s : Se} (h : fs[A]? = some s) : gF fs A = s := by simp [gF, h]
theorem gF_set {fs : List Se} {A : Nat} (s : Se) (h : A < fs.length) (B : Nat) : gF (fs.set A s) B = if B = A then s else gF fs B := by
 unfold gF
 rw [List.getElem?_set]
 by_cases h1 : A = B
 ·subst h1; rw [if_pos rfl, if_pos h, if_pos rfl]; rfl
 ·rw [if_neg h1, if_neg (Ne.symm h1)]
structure FsS (S : Sp) (es : List Bool) (fs : List Se) : Prop where
 len : fs.length = S.ns.length
 ok : ∀ s ∈ fs, Se.ok s
 snd : ∀ A t, hF fs A t → FiN S.g S.nl A t
def FsC (S : Sp) (es : List Bool) (j : Nat) (fs : List Se) : Prop := ∀ p, S.ps[j]? = some p → un (gF fs p.l.toNat) (hdS S.nl fs es (row p.r)).1 = gF fs p.l.toNat
abbrev FsP (S : Sp) (es : List Bool) := Stp (FsS S es) (FsC S es) muF
theorem FsS.set {S : Sp} {es : List Bool} {fs : List Se} (hes : IsD S.g false S.ns.length es) (h : FsS S es fs) {p : Pd} (hp : p ∈ S.ps) (hl : p.l.toNat < S.ns.length) (hsm : Sml S.nl (row p.r)) {s : Se} (hs : fs[p.l.toNat]? = some s) : FsS S es (fs.set p.l.toNat (un s (hdS S.nl fs es (row p.r)).1)) := by
 have hlen := h.len
 refine ⟨by rw [List.length_set]; exact h.len, fun x hx => ?_, fun A t hA => ?_⟩
 ·rcases List.mem_or_eq_of_mem_set hx with h1 | h1
  ·exact h.ok x h1
  ·rw [h1]; exact ok_un (h.ok s (List.mem_of_getElem? hs)) (hdS_ok h.ok hsm)
 ·unfold hF at hA
  rw [gF_set _ (by omega)] at hA
  split at hA
  ·rename_i h1
   subst h1
   rw [has_un, Bool.or_eq_true] at hA
   rcases hA with h2 | h2
   ·exact h.snd _ _ (by unfold hF; rw [gF_at hs]; exact h2)
   ·refine ⟨_, g_mem hp, ?_⟩
    have h3 := Hd_mono (F' := hF fs) (fun _ _ h => h) (fun A h => (hes.iff A).1 h) (hdS_has.1 h2)
    exact FiR_of h.snd h3
  ·exact h.snd A t hA
theorem FsP.isF {S : Sp} {es : List Bool} {fs : List Se} (hes : IsD S.g false S.ns.length es) (h : FsS S es fs) (hc : ∀ j, j < S.ps.length → FsC S es j fs) : IsF S.g S.nl (hF fs) :=
 ⟨h.snd, fun A r hm t ht => by
  obtain ⟨j, p, hj, hp, h1, h2⟩ := g_idx hm
  have h3 := hc j hj p hp
  rw [h1, h2] at h3
  unfold hF
  rw [← h3, has_un, Bool.or_eq_true]
  exact .inr (hdS_has.2 (Hd_mono (fun _ _ h => h) (fun A h => (hes.iff A).2 h) ht))⟩
theorem FsS.start (S : Sp) (es : List Bool) : FsS S es (List.replicate S.ns.length (0, 0)) := by
 have hg : ∀ A, gF (List.replicate S.ns.length (0, 0)) A = (0, 0) := fun A => by
  unfold gF
  rw [List.getElem?_replicate]
  split <;> rfl
 refine ⟨by simp, fun s hs => by rw [(List.mem_replicate.1 hs).2]; exact ok_none, fun A t h => ?_⟩
 unfold hF at h
 rw [hg, has_none] at h
 cases h
theorem row_t {r : List Sy} {n : Nat} (h : Sm.t n ∈ row r) : ∃ x ∈ r, x.1 = 1 ∧ x.2.toNat = n := by
 obtain ⟨x, hx, he⟩ := List.mem_map.1 h
 unfold sm at he
 split at he
 ·cases he
 ·split at he
  ·rename_i h1; cases he; exact ⟨x, hx, h1, rfl⟩
  ·cases he
theorem Ix.small {S : Sp} (h : Ix S) (hl : S.lx.length ≤ 64) {p : Pd} (hp : p ∈ S.ps) : Sml S.nl (row p.r) := by
 refine ⟨by unfold Sp.nl; omega, fun n hn => ?_⟩
 obtain ⟨x, hx, h1, h2⟩ := row_t hn
 rcases h.right p hp x hx with ⟨_, h3, h4, _⟩ | ⟨h3, _⟩ | ⟨h3, _⟩
 ·omega
 ·omega
 ·omega
theorem secs_setL (l : List Se) (j : Nat) (s : Se) (h : j < l.length) : setL (secs l) (0 + j * 2) [.int .u64 (s.1 : Int), .int .u64 (s.2 : Int)] = secs (l.set j s) := by
 rw [Nat.zero_add, ← secs_set l j s h]
 rfl
theorem se_eq (s o : Se) : (((s.1 : Int) == (o.1 : Int)) && ((s.2 : Int) == (o.2 : Int))) = decide (s = o) := by
 by_cases h : s = o
 ·subst h; simp
 ·rw [decide_eq_false h]
  rw [Bool.and_eq_false_iff]
  by_cases h1 : s.1 = o.1
  ·right
   have : s.2 ≠ o.2 := fun h2 => h (Prod.ext h1 h2)
   simpa using fun h3 : (s.2 : Int) = o.2 => this (by omega)
  ·left
   simpa using fun h3 : (s.1 : Int) = o.1 => h1 (by omega)
theorem FsC.of {S : Sp} {es : List Bool} {fs : List Se} {i : Nat} {p : Pd} (hi : S.ps[i]? = some p) {s : Se} (hs : fs[p.l.toNat]? = some s) (h : un s (hdS S.nl fs es (row p.r)).1 = s) : FsC S es i fs := fun q hq => by
 rw [hi] at hq; cases hq
 rw [gF_at hs]; exact h
theorem Em_congr {E E' : Nat → Prop} (h : ∀ A, E A ↔ E' A) : ∀ {r : List Sm}, Em E r ↔ Em E' r
 | [] => Iff.rfl
 | .t _ :: _ => Iff.rfl
 | .e :: _ => Iff.rfl
 | .m A :: r => by rw [Em, Em, h A, Em_congr h (r := r)]
theorem un_zero (s : Se) : un s (0, 0) = s := by unfold un; simp
theorem sy_kinds {S : Sp} {x : Sy} (h : syOk S x) : (x.1 = 1 ∧ 0 ≤ x.2 ∧ x.2 < S.lx.length ∧ sm x = .t x.2.toNat) ∨ (x.1 = 2 ∧ x.2 = 0 ∧ sm x = .e) ∨ (x.1 = 3 ∧ 0 ≤ x.2 ∧ x.2 < S.ns.length ∧ sm x = .m x.2.toNat) := by
 rcases h with ⟨h, h1, h2, _⟩ | ⟨h, h1⟩ | ⟨h, h1, h2⟩
 ·exact .inl ⟨h, h1, h2, by simp [sm, h]⟩
 ·exact .inr (.inl ⟨h, h1, by simp [sm, h]⟩)
 ·exact .inr (.inr ⟨h, h1, h2, by simp [sm, h]⟩)
theorem hdS_one {nl : Nat} {fs : List Se} {es : List Bool} {x : Sy} {fx : Se} {ex : Bool} (h : sm x = .m x.2.toNat) (hf : fs[x.2.toNat]? = some fx) (he : es[x.2.toNat]? = some ex) : hdS nl fs es [sm x] = (fx, ex) := by
 rw [h, hdS, gF_at hf]
 have : gB es x.2.toNat = ex := by simp [gB, he]
 rw [this]
 cases ex
 ·rfl
 ·rw [if_pos rfl]; show (un fx (0, 0), true) = _; rw [un_zero]
theorem hd1_ok {S : Sp} {fs : List Se} {es : List Bool} {x : Sy} (hf : ∀ s ∈ fs, Se.ok s) (hlx : S.lx.length ≤ 64) (hx : syOk S x) : ((hdS S.nl fs es [sm x]).1).ok := by
 refine hdS_ok hf ⟨by unfold Sp.nl; omega, fun n hn => ?_⟩
 have hn : Sm.t n = sm x := by simpa using hn
 rcases sy_kinds hx with ⟨_, h1, h2, h3⟩ | ⟨_, _, h3⟩ | ⟨_, _, _, h3⟩
 ·rw [h3] at hn; cases hn; omega
 ·rw [h3] at hn; cases hn
 ·rw [h3] at hn; cases hn
theorem hdS_step {nl : Nat} {fs : List Se} {es : List Bool} {r : List Sy} {k : Nat} {x : Sy} (h : r[k]? = some x) :
  ((hdS nl fs es [sm x]).2 = true → hdS nl fs es ((row r).drop k) = (un (hdS nl fs es [sm x]).1 (hdS nl fs es ((row r).drop (k + 1))).1, (hdS nl fs es ((row r).drop (k + 1))).2)) ∧
  ((hdS nl fs es [sm x]).2 = false → hdS nl fs es ((row r).drop k) = hdS nl fs es [sm x]) := by
 rw [row_at h]
 cases sm x with
 | t n => exact ⟨fun h => (by cases h), fun _ => rfl⟩
 | e => exact ⟨fun h => (by cases h), fun _ => rfl⟩
 | m A =>
  simp only [hdS]
  by_cases hA : gB es A = true
  ·rw [if_pos hA, if_pos hA]
   exact ⟨fun _ => by rw [un_zero], fun h => (by cases h)⟩
  ·rw [if_neg hA, if_neg hA]
   exact ⟨fun h => (by cases h), fun _ => rfl⟩
end Go.Proofs.YtkkpghlcmcaoiaaDoor
namespace Go.Proofs.YtkkpghlcmcaoiaaDoor
open Go.Vc Go.Gm
def bl1 (x : Nat) : List Nat := (List.range 64).filter fun j => x.testBit j
theorem filter_least {p q : Nat → Bool} {c : Nat} (h1 : ∀ j, j < c → p j = false) (h2 : p c = true) (h3 : ∀ j, j ≤ c → q j = false) (h4 : ∀ j, c < j → q j = p j) : ∀ n, (List.range n).filter p = (if c < n then [c] else []) ++ (List.range n).filter q
 | 0 => by simp
 | n + 1 => by
  have ih := filter_least h1 h2 h3 h4 n
  rw [List.range_succ, List.filter_append, List.filter_append, ih]
  rcases Nat.lt_trichotomy n c with h | h | h
  ·rw [if_neg (by omega), if_neg (by omega)]
   simp [h1 n h, h3 n (by omega)]
  ·subst h
   rw [if_neg (by omega), if_pos (by omega)]
   have hq : (List.range n).filter q = [] := by
    rw [List.filter_eq_nil_iff]
    intro j hj
    rw [h3 j (by have := List.mem_range.1 hj; omega)]
    simp
   simp [h2, h3 n (Nat.le_refl _), hq]
  ·rw [if_pos h, if_pos (by omega), List.append_assoc]
   congr 2
   simp only [List.filter_cons, List.filter_nil, h4 n h]
theorem tb_add {c a i : Nat} (hi : i < 2 ^ c) (j : Nat) : (2 ^ c * a + i).testBit j = if j < c then i.testBit j else a.testBit (j - c) := Nat.testBit_two_pow_mul_add a hi j
theorem bl1_step {x : Nat} (h0 : x ≠ 0) (hx : x < 18446744073709551616) : bl1 x = Lib.ctz 64 x :: bl1 (x &&& (x - 1)) ∧ x &&& (x - 1) < x := by
 obtain ⟨m, hm, hc⟩ := Lib.ctzFrom_spec 64 x (by omega) hx
 have hcz : Lib.ctzFrom 64 x = Lib.ctz 64 x := by unfold Lib.ctz; rw [if_neg (by simpa using h0)]
 rw [hcz] at hm hc
 generalize Lib.ctz 64 x = c at hm hc ⊢
 have hp : 0 < 2 ^ c := Nat.two_pow_pos c
 have hx1 : x = 2 ^ c * (2 * m + 1) + 0 := by omega
 have e : 2 ^ c * (2 * m + 1) = 2 ^ c * (2 * m) + 2 ^ c := by rw [Nat.mul_add, Nat.mul_one]
 have hx2 : x - 1 = 2 ^ c * (2 * m) + (2 ^ c - 1) := by omega
 have t1 : ∀ j, x.testBit j = if j < c then false else (2 * m + 1).testBit (j - c) := fun j => by
  rw [hx1, tb_add hp]
  split
  ·rw [Nat.zero_testBit]
  ·rfl
 have t2 : ∀ j, c ≤ j → (x - 1).testBit j = (2 * m).testBit (j - c) := fun j hj => by
  rw [hx2, tb_add (by omega), if_neg (by omega)]
 refine ⟨?_, ?_⟩
 ·unfold bl1
  rw [filter_least (p := fun j => x.testBit j) (q := fun j => (x &&& (x - 1)).testBit j) (c := c) (fun j hj => by simp only [t1, if_pos hj]) (by simp [t1]) ?_ ?_ 64, if_pos hc]
  ·rfl
  ·intro j hj
   simp only [Nat.testBit_and]
   rcases Nat.lt_or_ge j c with h | h
   ·rw [t1, if_pos h, Bool.false_and]
   ·have : j = c := by omega
    subst this
    rw [t2 j (Nat.le_refl _), Nat.sub_self]
    simp
  ·intro j hj
   simp only [Nat.testBit_and]
   rw [t1, if_neg (by omega), t2 j (by omega)]
   obtain ⟨k, hk⟩ : ∃ k, j - c = k + 1 := ⟨j - c - 1, by omega⟩
   rw [hk, Nat.testBit_succ, Nat.testBit_succ]
   rw [show (2 * m + 1) / 2 = m by omega, show 2 * m / 2 = m by omega, Bool.and_self]
 ·have : x &&& (x - 1) ≤ x - 1 := Nat.and_le_right
  omega
theorem bl1_zero : bl1 0 = [] := by
 unfold bl1
 rw [List.filter_eq_nil_iff]
 intro j _
 simp
def sh (i x : Nat) : List Nat := (bl1 x).map fun j => 64 * i + j
theorem sh_step {i x : Nat} (h0 : x ≠ 0) (hx : x < 18446744073709551616) : sh i x = (64 * i + Lib.ctz 64 x) :: sh i (x &&& (x - 1)) := by
 unfold sh
 rw [(bl1_step h0 hx).1]; rfl
theorem sh_zero (i : Nat) : sh i 0 = [] := by unfold sh; rw [bl1_zero]; rfl
def tls (s : Se) : List Nat := sh 0 s.1 ++ sh 1 s.2
def wd (s : Se) (i : Nat) : Nat := if i = 0 then s.1 else s.2
def rst (s : Se) (i : Nat) : List Nat := if i = 0 then tls s else if i = 1 then sh 1 s.2 else []
theorem rst_step {s : Se} {i : Nat} (h : i < 2) : rst s i = sh i (wd s i) ++ rst s (i + 1) := by
 rcases (show i = 0 ∨ i = 1 by omega) with rfl | rfl
 ·rfl
 ·simp [rst, wd]
theorem wd_lt {s : Se} (h : s.ok) (i : Nat) : wd s i < 18446744073709551616 := by
 unfold wd
 split
 ·exact h.a
 ·exact h.b
theorem mem_bl1 {x j : Nat} : j ∈ bl1 x ↔ j < 64 ∧ x.testBit j = true := by
 unfold bl1
 rw [List.mem_filter, List.mem_range]
theorem mem_tls {s : Se} {t : Nat} (h : s.ok) : t ∈ tls s ↔ has s t = true := by
 unfold tls sh has
 rw [List.mem_append, List.mem_map, List.mem_map]
 constructor
 ·rintro (⟨j, hj, rfl⟩ | ⟨j, hj, rfl⟩)
  ·obtain ⟨h1, h2⟩ := mem_bl1.1 hj
   rw [if_pos (by omega)]; simpa using h2
  ·obtain ⟨h1, h2⟩ := mem_bl1.1 hj
   rw [if_neg (by omega), show 64 * 1 + j - 64 = j by omega]; exact h2
 ·split
  ·rename_i h1
   intro h2
   exact .inl ⟨t, mem_bl1.2 ⟨h1, h2⟩, by omega⟩
  ·rename_i h1
   intro h2
   refine .inr ⟨t - 64, mem_bl1.2 ⟨?_, h2⟩, by omega⟩
   rcases Nat.lt_or_ge (t - 64) 64 with h3 | h3
   ·exact h3
   ·have := Nat.testBit_lt_two_pow (x := s.2) (i := t - 64) (Nat.lt_of_lt_of_le h.b (show 2 ^ 64 ≤ 2 ^ (t - 64) from Nat.pow_le_pow_right (by omega) h3))
    rw [this] at h2; cases h2
theorem tls_len (s : Se) : (tls s).length ≤ 128 := by
 have h : ∀ x, (bl1 x).length ≤ 64 := fun x => by
  have := List.length_filter_le (fun j => x.testBit j) (List.range 64)
  rw [List.length_range] at this; exact this
 have h1 := h s.1
 have h2 := h s.2
 unfold tls sh
 rw [List.length_append, List.length_map, List.length_map]
 omega
def Rising (l : List Nat) : Prop := l.Pairwise (· < ·)
theorem bl1_rising (x : Nat) : Rising (bl1 x) := List.Pairwise.filter _ List.pairwise_lt_range
theorem tls_rising (s : Se) : Rising (tls s) := by
 unfold Rising tls sh
 rw [List.pairwise_append]
 refine ⟨List.Pairwise.map _ (fun a b h => by omega) (bl1_rising s.1), List.Pairwise.map _ (fun a b h => by omega) (bl1_rising s.2), ?_⟩
 intro a ha b hb
 obtain ⟨j, hj, rfl⟩ := List.mem_map.1 ha
 obtain ⟨k, hk, rfl⟩ := List.mem_map.1 hb
 have := (mem_bl1.1 hj).1
 omega
theorem Rising.ext : ∀ {a b : List Nat}, Rising a → Rising b → (∀ t, t ∈ a ↔ t ∈ b) → a = b
 | [], [], _, _, _ => rfl
 | [], y :: b, _, _, h => by have := (h y).2 (by simp); simp at this
 | x :: a, [], _, _, h => by have := (h x).1 (by simp); simp at this
 | x :: a, y :: b, ha, hb, h => by
  obtain ⟨ha1, ha2⟩ := List.pairwise_cons.1 ha
  obtain ⟨hb1, hb2⟩ := List.pairwise_cons.1 hb
  have hxy : x = y := by
   rcases Nat.lt_trichotomy x y with h1 | h1 | h1
   ·have := (h x).1 (by simp)
    rcases List.mem_cons.1 this with h2 | h2
    ·exact h2
    ·have := hb1 x h2; omega
   ·exact h1
   ·have := (h y).2 (by simp)
    rcases List.mem_cons.1 this with h2 | h2
    ·exact h2.symm
    ·have := ha1 y h2; omega
  subst hxy
  congr 1
  refine Rising.ext ha2 hb2 fun t => ?_
  constructor
  ·intro ht
   rcases List.mem_cons.1 ((h t).1 (by simp [ht])) with h2 | h2
   ·have := ha1 t ht; omega
   ·exact h2
  ·intro ht
   rcases List.mem_cons.1 ((h t).2 (by simp [ht])) with h2 | h2
   ·have := hb1 t ht; omega
   ·exact h2
end Go.Proofs.YtkkpghlcmcaoiaaDoor
