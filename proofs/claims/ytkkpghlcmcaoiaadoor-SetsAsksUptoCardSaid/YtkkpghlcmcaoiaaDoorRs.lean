import Derived.Test.YtkkpghlcmcaoiaaDoorS41
import Derived.Test.YtkkpghlcmcaoiaaDoorHh
namespace Go.Proofs.YtkkpghlcmcaoiaaDoor
open Go.Vc Go.Gm
section
variable {S : Sp}
structure RcQ (S : Sp) (i : Nat) (n0 : List Bool) (x : RcX) (gr : Bool) : Prop where
 snd : RcS S x
 cl : gr = false → x.1 = n0 ∧ ∀ j, j < i → RcC S j x
 lt : gr = true → falses x.1 < falses n0
structure RcJ (S : Sp) (i : Nat) (p : Pd) (k : Nat) (n0 : List Bool) (x : RcX) (gr : Bool) : Prop where
 h : RcQ S i n0 x gr
 l : on x.1 p.l.toNat
 d : gr = false → ∀ y ∈ (row p.r).take k, rcOn x y
theorem RcQ.start {x : RcX} (h : RcS S x) : RcQ S 0 x.1 x false := ⟨h, fun _ => ⟨rfl, fun j hj => by omega⟩, fun h => by cases h⟩
theorem RcQ.more {i : Nat} {n0 : List Bool} {x : RcX} {gr : Bool} (h : RcQ S i n0 x gr) : 2 * falses x.1 + gr.toNat < 2 * falses n0 + true.toNat := by
 cases gr with
 | false => rw [(h.cl rfl).1]; simp
 | true => have := h.lt rfl; omega
theorem RcQ.pass {i : Nat} {n0 : List Bool} {x : RcX} {gr : Bool} (h : RcQ S i n0 x gr) {p : Pd} (hi : S.ps[i]? = some p) (ho : x.1[p.l.toNat]? = some false) : RcQ S (i + 1) n0 x gr :=
 ⟨h.snd, fun hg => ⟨(h.cl hg).1, fun j hj => by
  rcases Nat.lt_succ_iff_lt_or_eq.1 hj with h1 | h1
  ·exact (h.cl hg).2 j h1
  ·rw [h1]; intro q hq hl; rw [hi] at hq; cases hq; exact absurd hl (off_of ho)⟩, h.lt⟩
theorem RcJ.start {i : Nat} {p : Pd} {n0 : List Bool} {x : RcX} {gr : Bool} (h : RcQ S i n0 x gr) (hl : x.1[p.l.toNat]? = some true) : RcJ S i p 0 n0 x gr := ⟨h, hl, fun _ y hy => by simp at hy⟩
theorem RcJ.pass {i k : Nat} {p : Pd} {n0 : List Bool} {x : RcX} {gr : Bool} (h : RcJ S i p k n0 x gr) {y : Sy} (hk : p.r[k]? = some y) (ho : rcOn x (sm y)) : RcJ S i p (k + 1) n0 x gr :=
 ⟨h.h, h.l, fun hg z hz => (take_row hk hz).elim (h.d hg z) fun e => e ▸ ho⟩
theorem RcJ.m1 {i k : Nat} {p : Pd} {n0 : List Bool} {x : RcX} {gr : Bool} (h : RcJ S i p k n0 x gr) (hp : p ∈ S.ps) {y : Sy} (hy : y ∈ p.r) (h3 : sm y = .m y.2.toNat) (hb : y.2.toNat < S.ns.length) (ho : x.1[y.2.toNat]? = some false) : RcJ S i p (k + 1) n0 (x.1.set y.2.toNat true, x.2) true := by
 have hlen := h.h.snd.l1
 refine ⟨⟨h.h.snd.m1 hp h.l hy h3 hb, fun h => (by cases h), fun _ => ?_⟩, (on_set (by omega)).2 (.inr h.l), fun h => (by cases h)⟩
 have h1 := count_on ho
 have h2 : falses x.1 ≤ falses n0 := by
  cases gr with
  | false => rw [(h.h.cl rfl).1]; exact Nat.le_refl _
  | true => exact Nat.le_of_lt (h.h.lt rfl)
 exact Nat.lt_of_lt_of_le h1 h2
theorem rcOn_mono {n r : List Bool} {t : Nat} (ht : t < r.length) {y : Sm} (h : rcOn (n, r) y) : rcOn (n, r.set t true) y := by
 cases y with
 | e => trivial
 | m B => exact h
 | t j => exact (on_set ht).2 (.inr h)
theorem RcJ.m2 {i k : Nat} {p : Pd} {n0 n r : List Bool} {gr : Bool} (h : RcJ S i p k n0 (n, r) gr) (hp : p ∈ S.ps) {y : Sy} (hk : p.r[k]? = some y) (h3 : sm y = .t y.2.toNat) (hb : y.2.toNat < S.lx.length) : RcJ S i p (k + 1) n0 (n, r.set y.2.toNat true) gr := by
 have hlen : r.length = S.lx.length := h.h.snd.l2
 refine ⟨⟨h.h.snd.m2 hp h.l (List.mem_of_getElem? hk) h3 hb, fun hg => ⟨(h.h.cl hg).1, fun j hj q hq hl z hz => rcOn_mono (by omega) ((h.h.cl hg).2 j hj q hq hl z hz)⟩, h.h.lt⟩, h.l, fun hg z hz => ?_⟩
 rcases take_row hk hz with h1 | h1
 ·exact rcOn_mono (by omega) (h.d hg z h1)
 ·rw [h1, h3]; exact (on_set (by omega)).2 (.inl rfl)
theorem RcJ.done {i : Nat} {p : Pd} {n0 : List Bool} {x : RcX} {gr : Bool} (h : RcJ S i p p.r.length n0 x gr) (hi : S.ps[i]? = some p) : RcQ S (i + 1) n0 x gr :=
 ⟨h.h.snd, fun hg => ⟨(h.h.cl hg).1, fun j hj => by
  rcases Nat.lt_succ_iff_lt_or_eq.1 hj with h1 | h1
  ·exact (h.h.cl hg).2 j h1
  ·rw [h1]; intro q hq _ y hy; rw [hi] at hq; cases hq
   exact h.d hg y (by rw [List.take_of_length_le (by rw [row_len]; exact Nat.le_refl _)]; exact hy)⟩, h.h.lt⟩
/-! ### the least empty trees: none is 0 -/
def zv (v : Nat) : Nat := if v = 257 then 0 else v
def zvL (vs : List Nat) : List Nat := vs.map zv
theorem zv_top : zv 257 = 0 := rfl
theorem zv_ne {v : Nat} (h : v ≠ 257) : zv v = v := if_neg h
theorem zv_at {vs : List Nat} {j v : Nat} (h : vs[j]? = some v) : (ivs (zvL vs))[0 + j * 1]? = some (I6 (zv v : Int)) := ivs_at (by rw [zvL, List.getElem?_map, h]; rfl)
theorem zv_set {vs : List Nat} {j m : Nat} (h : m ≠ 257) : (ivs (zvL vs)).set (0 + j * 1) (I6 (m : Int)) = ivs (zvL (vs.set j m)) := by
 rw [ivs_set, zvL, zvL, List.map_set, zv_ne h]
theorem zv_len (vs : List Nat) : (ivs (zvL vs)).length = vs.length := by rw [ivs_len, zvL, List.length_map]
theorem zv_rep (n : Nat) : List.replicate (n * 1) (Value.int .i64 0) = ivs (zvL (List.replicate n 257)) := by
 rw [Nat.mul_one, zvL, List.map_replicate, zv_top, ← ivs_rep]; rfl
theorem SmS.pos {vs : List Nat} (h : SmS S 1 257 257 vs) {A v : Nat} (hv : vs[A]? = some v) : v ≤ 257 ∧ 1 ≤ v := by
 have h1 := h.le A
 rw [vf_at hv] at h1
 refine ⟨h1, ?_⟩
 rcases Nat.lt_or_ge v 257 with h2 | h2
 ·obtain ⟨q, i, _, _, h3⟩ := h.snd A (by rw [vf_at hv]; exact h2)
  rw [vf_at hv] at h3; omega
 ·omega
theorem IsC.pos1 {vs : List Nat} (h : IsC S.g 1 257 257 (vf 257 vs)) {A v : Nat} (hv : vs[A]? = some v) : v ≤ 257 ∧ 1 ≤ v := by
 have h1 := h.le A
 rw [vf_at hv] at h1
 refine ⟨h1, ?_⟩
 rcases Nat.lt_or_ge v 257 with h2 | h2
 ·obtain ⟨q, i, _, _, h3⟩ := h.snd A (by rw [vf_at hv]; exact h2)
  rw [vf_at hv] at h3; omega
 ·omega
end
end Go.Proofs.YtkkpghlcmcaoiaaDoor
namespace Go.Proofs.YtkkpghlcmcaoiaaDoor
open Go.Vc Go.Gm
structure OrP (a b : List Bool) (i : Nat) (c : List Bool) (m : Bool) : Prop where
 len : c.length = a.length
 iff : ∀ t, on c t ↔ on a t ∨ (t < i ∧ on b t)
 no : m = false → c = a
 yes : m = true → falses c < falses a
section
variable {a b c : List Bool} {i : Nat} {m : Bool}
theorem OrP.start : OrP a b 0 a false := ⟨rfl, fun t => by simp, fun _ => rfl, fun h => by cases h⟩
theorem OrP.off (h : OrP a b i c m) (hb : b[i]? = some false) : OrP a b (i + 1) c m :=
 ⟨h.len, fun t => by
  rw [h.iff]
  refine or_congr Iff.rfl ⟨fun q => ⟨by omega, q.2⟩, fun q => ⟨?_, q.2⟩⟩
  rcases Nat.lt_succ_iff_lt_or_eq.1 q.1 with h1 | h1
  ·exact h1
  ·rw [h1] at q; exact absurd q.2 (off_of hb), h.no, h.yes⟩
theorem OrP.has (h : OrP a b i c m) (hc : c[i]? = some true) : OrP a b (i + 1) c m :=
 ⟨h.len, fun t => by
  rw [h.iff]
  constructor
  ·exact fun q => q.imp id fun q => ⟨by omega, q.2⟩
  ·rintro (q | ⟨q1, q2⟩)
   ·exact .inl q
   ·rcases Nat.lt_succ_iff_lt_or_eq.1 q1 with h1 | h1
    ·exact .inr ⟨h1, q2⟩
    ·rw [h1]; exact (h.iff i).1 hc, h.no, h.yes⟩
theorem OrP.set (h : OrP a b i c m) (hb : b[i]? = some true) (hc : c[i]? = some false) : OrP a b (i + 1) (c.set i true) true := by
 have hl : i < c.length := (List.getElem?_eq_some_iff.1 hc).1
 refine ⟨by rw [List.length_set]; exact h.len, fun t => ?_, fun h => (by cases h), fun _ => ?_⟩
 ·rw [on_set hl, h.iff]
  constructor
  ·rintro (q | q | q)
   ·rw [q]; exact .inr ⟨by omega, hb⟩
   ·exact .inl q
   ·exact .inr ⟨by omega, q.2⟩
  ·rintro (q | ⟨q1, q2⟩)
   ·exact .inr (.inl q)
   ·rcases Nat.lt_succ_iff_lt_or_eq.1 q1 with h1 | h1
    ·exact .inr (.inr ⟨h1, q2⟩)
    ·exact .inl h1
 ·have h1 := count_on hc
  have h2 : falses c ≤ falses a := by
   cases m with
   | false => rw [h.no rfl]; exact Nat.le_refl _
   | true => exact Nat.le_of_lt (h.yes rfl)
  exact Nat.lt_of_lt_of_le h1 h2
theorem OrP.all (h : OrP a b b.length c m) (t : Nat) : on c t ↔ on a t ∨ on b t := by
 rw [h.iff]
 exact or_congr Iff.rfl ⟨fun q => q.2, fun q => ⟨(List.getElem?_eq_some_iff.1 q).1, q⟩⟩
end
theorem OrP.none {a b c : List Bool} {m : Bool} (h : OrP a b b.length c m) (hs : ∀ t, on b t → on a t) : m = false := by
 cases m with
 | false => rfl
 | true =>
  have h1 := h.yes rfl
  have : c = a := List.ext_getElem? fun t => by
   have hi : on c t ↔ on a t := by rw [h.all]; exact ⟨fun q => q.elim id (hs t), .inl⟩
   have hl := h.len
   by_cases h2 : t < a.length
   ·have h3 : t < c.length := by omega
    unfold on at hi
    rw [List.getElem?_eq_getElem h2, List.getElem?_eq_getElem h3] at hi ⊢
    simp only [Option.some.injEq] at hi ⊢
    exact Bool.eq_iff_iff.2 hi
   ·rw [List.getElem?_eq_none (by omega), List.getElem?_eq_none (by omega)]
  rw [this] at h1
  exact absurd h1 (Nat.lt_irrefl _)
theorem OrP.some {a b c : List Bool} {m : Bool} (h : OrP a b b.length c m) (hs : ¬∀ t, on b t → on a t) : m = true := by
 cases m with
 | true => rfl
 | false =>
  have h1 := h.no rfl
  exact absurd (fun t ht => by have := (h.all t).2 (.inr ht); rw [h1] at this; exact this) hs
theorem OrP.refl {a b : List Bool} (hs : ∀ t, on b t → on a t) : OrP a b b.length a false :=
 ⟨rfl, fun t => ⟨.inl, fun q => q.elim id fun q => hs t q.2⟩, fun _ => rfl, fun h => by cases h⟩
def tru : List Bool → Nat → List Nat
 | [], _ => []
 | b :: l, i => if b then i :: tru l (i + 1) else tru l (i + 1)
theorem tru_step {l : List Bool} {i : Nat} {b : Bool} (h : l[i]? = some b) (k : Nat) : tru (l.drop i) k = if b then k :: tru (l.drop (i + 1)) (k + 1) else tru (l.drop (i + 1)) (k + 1) := by rw [drop_of h]; rfl
theorem tru_len : ∀ (l : List Bool) (i : Nat), (tru l i).length ≤ l.length
 | [], _ => by simp [tru]
 | b :: l, i => by
  have := tru_len l (i + 1)
  rw [tru]
  split
  ·simp only [List.length_cons]; omega
  ·simp only [List.length_cons]; omega
theorem tru_mem : ∀ {l : List Bool} {i : Nat} {t : Nat}, t ∈ tru l i ↔ i ≤ t ∧ on l (t - i)
 | [], i, t => by simp [tru, on]
 | b :: l, i, t => by
  have ih := @tru_mem l (i + 1) t
  rw [tru]
  cases b with
  | false =>
   simp only [Bool.false_eq_true, if_false]
   rw [ih]
   constructor
   ·rintro ⟨h1, h2⟩
    refine ⟨by omega, ?_⟩
    rw [show t - i = (t - (i + 1)) + 1 by omega]
    exact h2
   ·rintro ⟨h1, h2⟩
    rcases Nat.eq_or_lt_of_le h1 with h3 | h3
    ·subst h3; simp [on] at h2
    ·refine ⟨by omega, ?_⟩
     rw [show t - i = (t - (i + 1)) + 1 by omega] at h2
     exact h2
  | true =>
   simp only [if_true, List.mem_cons]
   rw [ih]
   constructor
   ·rintro (h1 | ⟨h1, h2⟩)
    ·have : t = i := by omega
     subst this
     exact ⟨Nat.le_refl _, by simp [on]⟩
    ·refine ⟨by omega, ?_⟩
     rw [show t - i = (t - (i + 1)) + 1 by omega]
     exact h2
   ·rintro ⟨h1, h2⟩
    rcases Nat.eq_or_lt_of_le h1 with h3 | h3
    ·exact .inl (by omega)
    ·refine .inr ⟨by omega, ?_⟩
     rw [show t - i = (t - (i + 1)) + 1 by omega] at h2
     exact h2
theorem tru_rising : ∀ (l : List Bool) (i : Nat), Rising (tru l i)
 | [], _ => List.Pairwise.nil
 | b :: l, i => by
  rw [tru]
  split
  ·exact List.Pairwise.cons (fun t ht => by have := (tru_mem.1 ht).1; omega) (tru_rising l (i + 1))
  ·exact tru_rising l (i + 1)
structure NxB (n : Nat) (ts : List Int) (o : List Bool) : Prop where
 len : o.length = n
 iff : ∀ t : Nat, on o t ↔ (t : Int) ∈ ts
structure HdsQ (S : Sp) (r : List Sy) (ts : List Int) (l : List Nat) : Prop where
 rising : Rising l
 mem : ∀ t : Nat, t ∈ l ↔ FiR S.g S.nl (row r) t ∨ (NuR S.g (row r) ∧ (t : Int) ∈ ts)
theorem HdsQ.same {S : Sp} {r : List Sy} {ts : List Int} {l l' : List Nat} (h : HdsQ S r ts l) (h' : HdsR S r ts l') : l = l' := h.rising.ext h'.rising fun t => by rw [h.mem, h'.mem]
/-! ### what a row begins -/
def onF (F : List (List Bool)) (A t : Nat) : Prop := ∃ f, F[A]? = some f ∧ on f t
structure HbI (nl : Nat) (F : List (List Bool)) (E nx : List Bool) (r r' : List Sm) (o : List Bool) : Prop where
 len : o.length = nl + 2
 iff : ∀ t, (on o t ∨ Hd nl (onF F) (on E) r' t ∨ (Em (on E) r' ∧ on nx t)) ↔ (Hd nl (onF F) (on E) r t ∨ (Em (on E) r ∧ on nx t))
structure HbR (nl : Nat) (F : List (List Bool)) (E nx : List Bool) (r : List Sm) (o : List Bool) : Prop where
 len : o.length = nl + 2
 iff : ∀ t, on o t ↔ (Hd nl (onF F) (on E) r t ∨ (Em (on E) r ∧ on nx t))
section
variable {nl : Nat} {F : List (List Bool)} {E nx o o' : List Bool} {r r' : List Sm}
theorem on_rep {n t : Nat} : ¬on (List.replicate n false) t := by
 unfold on
 rw [List.getElem?_replicate]
 split <;> simp
theorem NxB.start {n : Nat} : NxB n [] (List.replicate n false) := ⟨by simp, fun t => by simp [on_rep]⟩
theorem NxB.step {n : Nat} {ts : List Int} (h : NxB n ts o) {z : Int} (h0 : 0 ≤ z) (h1 : z < n) : NxB n (ts ++ [z]) (o.set z.toNat true) :=
 ⟨by rw [List.length_set]; exact h.len, fun t => by
  rw [on_set (by rw [h.len]; omega), h.iff]
  simp only [List.mem_append, List.mem_singleton]
  exact ⟨fun q => q.elim (fun q => .inr (by omega)) .inl, fun q => q.elim .inr fun q => .inl (by omega)⟩⟩
theorem HbI.start : HbI nl F E nx r r (List.replicate (nl + 2) false) := ⟨by simp, fun t => by simp [on_rep]⟩
theorem HbI.t {n : Nat} (h : HbI nl F E nx r (.t n :: r') o) (hn : n < nl + 2) : HbR nl F E nx r (o.set n true) :=
 ⟨by rw [List.length_set]; exact h.len, fun t => by
  rw [← h.iff, on_set (by rw [h.len]; exact hn)]
  simp only [Hd, Em, false_and, or_false]
  exact or_comm⟩
theorem HbI.e (h : HbI nl F E nx r (.e :: r') o) : HbR nl F E nx r (o.set nl true) :=
 ⟨by rw [List.length_set]; exact h.len, fun t => by
  rw [← h.iff, on_set (by rw [h.len]; omega)]
  simp only [Hd, Em, false_and, or_false]
  exact or_comm⟩
theorem HbI.m {A : Nat} {f : List Bool} {m : Bool} (h : HbI nl F E nx r (.m A :: r') o) (hf : F[A]? = some f) (ho : OrP o f f.length o' m) (hE : on E A) : HbI nl F E nx r r' o' :=
 ⟨by rw [ho.len]; exact h.len, fun t => by
  rw [← h.iff, ho.all]
  have hF : onF F A t ↔ on f t := ⟨fun ⟨g, h1, h2⟩ => by rw [hf] at h1; cases h1; exact h2, fun h => ⟨f, hf, h⟩⟩
  simp only [Hd, Em, hF, hE, true_and]
  exact ⟨fun q => by rcases q with (q | q) | q | q <;> simp [q], fun q => by rcases q with q | (q | q) | q <;> simp [q]⟩⟩
theorem HbI.stop {A : Nat} {f : List Bool} {m : Bool} (h : HbI nl F E nx r (.m A :: r') o) (hf : F[A]? = some f) (ho : OrP o f f.length o' m) (hE : ¬on E A) : HbR nl F E nx r o' :=
 ⟨by rw [ho.len]; exact h.len, fun t => by
  rw [← h.iff, ho.all]
  have hF : onF F A t ↔ on f t := ⟨fun ⟨g, h1, h2⟩ => by rw [hf] at h1; cases h1; exact h2, fun h => ⟨f, hf, h⟩⟩
  simp only [Hd, Em, hF, hE, false_and, or_false]⟩
theorem HbI.done {m : Bool} (h : HbI nl F E nx r [] o) (ho : OrP o nx nx.length o' m) : HbR nl F E nx r o' :=
 ⟨by rw [ho.len]; exact h.len, fun t => by rw [← h.iff, ho.all]; simp [Hd, Em]⟩
end
/-! ### rows of sets -/
def bcl (n : Nat) (x : Nat × List Bool) : Value := .slice (some ⟨x.1, 0, none⟩) n n
theorem bcl_at {n : Nat} {L : List (Nat × List Bool)} {k : Nat} {x : Nat × List Bool} (h : L[k]? = some x) : (L.map (bcl n))[k * 1]? = some (.slice (some ⟨x.1, 0, none⟩) n n) := by rw [Nat.mul_one, List.getElem?_map, h]; rfl
theorem snd_at {L : List (Nat × List Bool)} {k : Nat} {x : Nat × List Bool} (h : L[k]? = some x) : (L.map Prod.snd)[k]? = some x.2 := by rw [List.getElem?_map, h]; rfl
structure BsL (w : World) (N n : Nat) (L : List (Nat × List Bool)) : Prop where
 rows : ∀ (k : Nat) (x : Nat × List Bool), L[k]? = some x → OwnR w 4 1 x.1 n n (bls x.2)
 ge : ∀ (k : Nat) (x : Nat × List Bool), L[k]? = some x → N ≤ x.1
 dj : ∀ (k k' : Nat) (x x' : Nat × List Bool), L[k]? = some x → L[k']? = some x' → x.1 = x'.1 → k = k'
section
variable {w w' : World} {N n : Nat} {L : List (Nat × List Bool)} {M : List Nat}
theorem BsL.nil : BsL w N n [] := ⟨fun k x h => by simp at h, fun k x h => by simp at h, fun k k' x x' h => by simp at h⟩
theorem BsL.ext (h : BsL w N n L) (hE : Ext M w w') (hM : ∀ (k : Nat) (x : Nat × List Bool), L[k]? = some x → x.1 ∉ M) : BsL w' N n L :=
 ⟨fun k x hx => (h.rows k x hx).ext hE (hM k x hx), h.ge, h.dj⟩
theorem BsL.ext0 (h : BsL w N n L) (hE : Ext [] w w') : BsL w' N n L := h.ext hE fun _ _ _ => by simp
theorem BsL.len (h : BsL w N n L) {k : Nat} {x : Nat × List Bool} (hx : L[k]? = some x) : x.2.length = n := by
 have := (h.rows k x hx).len
 rw [bls_len] at this; omega
theorem BsL.lt (h : BsL w N n L) {k : Nat} {x : Nat × List Bool} (hx : L[k]? = some x) : x.1 < w.heap.size := (h.rows k x hx).lt
theorem BsL.set (h : BsL w N n L) {k : Nat} {x : Nat × List Bool} {o : List Bool} (hx : L[k]? = some x) (hE : Ext [x.1] w w') (hO : OwnR w' 4 1 x.1 n n (bls o)) : BsL w' N n (L.set k (x.1, o)) := by
 have hk : k < L.length := (List.getElem?_eq_some_iff.1 hx).1
 have key : ∀ (j : Nat) (y : Nat × List Bool), (L.set k (x.1, o))[j]? = some y → (j = k ∧ y = (x.1, o)) ∨ (j ≠ k ∧ L[j]? = some y) := fun j y hy => by
  rw [List.getElem?_set] at hy
  by_cases h1 : k = j
  ·subst h1; simp [hk] at hy; exact .inl ⟨rfl, hy.symm⟩
  ·rw [if_neg h1] at hy; exact .inr ⟨Ne.symm h1, hy⟩
 refine ⟨fun j y hy => ?_, fun j y hy => ?_, fun j j' y y' hy hy' he => ?_⟩
 ·rcases key j y hy with ⟨_, h1⟩ | ⟨h0, h1⟩
  ·rw [h1]; exact hO
  ·exact (h.rows j y h1).ext hE fun hm => h0 (h.dj j k y x h1 hx (by simpa using hm))
 ·rcases key j y hy with ⟨_, h1⟩ | ⟨_, h1⟩
  ·rw [h1]; exact h.ge k x hx
  ·exact h.ge j y h1
 ·rcases key j y hy with ⟨h0, h1⟩ | ⟨h0, h1⟩ <;> rcases key j' y' hy' with ⟨h2, h3⟩ | ⟨h2, h3⟩
  ·omega
  ·exact absurd (h.dj j' k y' x h3 hx (by rw [← he, h1])) h2
  ·exact absurd (h.dj j k y x h1 hx (by rw [he, h3])) h0
  ·exact h.dj j j' y y' h1 h3 he
theorem BsL.keep (h : BsL w N n L) {k : Nat} {x : Nat × List Bool} (hx : L[k]? = some x) (hE : Ext [x.1] w w') (hO : OwnR w' 4 1 x.1 n n (bls x.2)) : BsL w' N n L :=
 ⟨fun j y hy => by
  by_cases h1 : y.1 = x.1
  ·have := h.dj j k y x hy hx h1
   subst this
   rw [hy] at hx; cases hx
   exact hO
  ·exact (h.rows j y hy).ext hE (by simpa using h1), h.ge, h.dj⟩
theorem BsL.snoc2 (h : BsL w N n L) {g : Nat} {o : List Bool} (hO : OwnR w 4 1 g n n (bls o)) (hN : N ≤ g) (hd : ∀ (k : Nat) (x : Nat × List Bool), L[k]? = some x → x.1 < g) : BsL w N n (L ++ [(g, o)]) := by
 have key : ∀ (k : Nat) (x : Nat × List Bool), (L ++ [(g, o)])[k]? = some x → (L[k]? = some x) ∨ (k = L.length ∧ x = (g, o)) := fun k x hx => by
  rcases Nat.lt_or_ge k L.length with h1 | h1
  ·rw [List.getElem?_append_left h1] at hx; exact .inl hx
  ·rw [List.getElem?_append_right h1] at hx
   have : k - L.length = 0 := by
    rcases Nat.eq_zero_or_pos (k - L.length) with h2 | h2
    ·exact h2
    ·rw [List.getElem?_eq_none (by simp; omega)] at hx; cases hx
   rw [this] at hx
   exact .inr ⟨by omega, by simpa using hx.symm⟩
 refine ⟨fun k x hx => ?_, fun k x hx => ?_, fun k k' x x' hx hx' he => ?_⟩
 ·rcases key k x hx with h1 | ⟨_, h1⟩
  ·exact h.rows k x h1
  ·rw [h1]; exact hO
 ·rcases key k x hx with h1 | ⟨_, h1⟩
  ·exact h.ge k x h1
  ·rw [h1]; exact hN
 ·rcases key k x hx with h1 | ⟨h1, h1'⟩ <;> rcases key k' x' hx' with h2 | ⟨h2, h2'⟩
  ·exact h.dj k k' x x' h1 h2 he
  ·have := hd k x h1; rw [he, h2'] at this; simp at this
  ·have := hd k' x' h2; rw [← he, h1'] at this; simp at this
  ·omega
theorem BsL.extT (h : BsL w N n L) {b T : Nat} {cs : Array Value} (hE : Ext [b] w w') (hB : Blk w b T cs) (hT : 4 ≠ T) : BsL w' N n L :=
 h.ext hE fun k x hx hm => (h.rows k x hx).ne_type hB hT (by simpa using hm)
theorem BsL.extV (h : BsL w N n L) {v : Value} {e : TypeId} {size m : Nat} {xs : List Value} (hE : Ext (ob v) w w') (hV : OwnV w e size v m xs) (hT : e ≠ 4) : BsL w' N n L :=
 h.ext hE fun k x hx hm => hV.neR (h.rows k x hx) hT _ hm rfl
theorem snd_set {k : Nat} {x : Nat × List Bool} {o : List Bool} : (L.set k (x.1, o)).map Prod.snd = (L.map Prod.snd).set k o := by rw [List.map_set]
theorem bcl_set {k : Nat} {x : Nat × List Bool} {o : List Bool} (hx : L[k]? = some x) : (L.set k (x.1, o)).map (bcl n) = L.map (bcl n) := by
 rw [List.map_set]
 refine List.ext_getElem? fun j => ?_
 rw [List.getElem?_set]
 split
 ·rename_i h
  subst h
  have hk : k < L.length := (List.getElem?_eq_some_iff.1 hx).1
  simp [hk, hx, bcl]
  rw [List.getElem?_eq_getElem hk] at hx
  simp at hx
  rw [hx]
 ·rfl
end
/-! ### First: a pass over the productions -/
structure RfS (S : Sp) (F : List (List Bool)) : Prop where
 len : F.length = S.ns.length
 w : ∀ f ∈ F, f.length = S.nl + 2
 snd : ∀ A t, onF F A t → FiN S.g S.nl A t
def RfC (S : Sp) (E : List Bool) (j : Nat) (F : List (List Bool)) : Prop := ∀ p, S.ps[j]? = some p → ∀ t, Hd S.nl (onF F) (on E) (row p.r) t → onF F p.l.toNat t
def muR (F : List (List Bool)) : Nat := (F.map falses).sum
abbrev RfP (S : Sp) (E : List Bool) := Stp (RfS S) (RfC S E) muR
section
variable {S : Sp} {E : List Bool} {F : List (List Bool)} {p : Pd} {f f' o : List Bool} {i : Nat}
theorem onF_set {A : Nat} (hA : A < F.length) {B t : Nat} : onF (F.set A f) B t ↔ (B = A ∧ on f t) ∨ (B ≠ A ∧ onF F B t) := by
 unfold onF
 rw [List.getElem?_set]
 by_cases h : A = B
 ·subst h; simp [hA]
 ·rw [if_neg h]; simp [Ne.symm h]
theorem muR_set {A : Nat} (hA : F[A]? = some f) (h : falses f' < falses f) : muR (F.set A f') < muR F := by
 unfold muR
 have key : ∀ (F : List (List Bool)) (A : Nat), F[A]? = some f → ((F.set A f').map falses).sum + falses f = (F.map falses).sum + falses f' := fun F => by
  induction F with
  | nil => intro A h; simp at h
  | cons x F ih =>
   intro A hA
   cases A with
   | zero => simp at hA; subst hA; simp; omega
   | succ A => simp at hA; have := ih A hA; simp only [List.set_cons_succ, List.map_cons, List.sum_cons]; omega
 have := key F A hA
 omega
theorem RfS.start : RfS S (List.replicate S.ns.length (List.replicate (S.nl + 2) false)) :=
 ⟨by simp, fun f hf => by rw [(List.mem_replicate.1 hf).2]; simp, fun A t ⟨f, h1, h2⟩ => by
  rw [(List.mem_replicate.1 (List.mem_of_getElem? h1)).2] at h2; exact absurd h2 on_rep⟩
theorem RfS.set (hes : IsD S.g false S.ns.length E) (h : RfS S F) (hp : p ∈ S.ps) (hf : F[p.l.toNat]? = some f) (ho : HbR S.nl F E [] (row p.r) o) {m : Bool} (h' : OrP f o o.length f' m) : RfS S (F.set p.l.toNat f') := by
 have hl : p.l.toNat < F.length := (List.getElem?_eq_some_iff.1 hf).1
 refine ⟨by rw [List.length_set]; exact h.len, fun y hy => ?_, fun A t hA => ?_⟩
 ·rcases List.mem_or_eq_of_mem_set hy with h1 | h1
  ·exact h.w y h1
  ·rw [h1, h'.len]; exact h.w f (List.mem_of_getElem? hf)
 ·rw [onF_set hl] at hA
  rcases hA with ⟨h1, h2⟩ | ⟨_, h2⟩
  ·rw [h'.all] at h2
   rcases h2 with h2 | h2
   ·exact h.snd _ _ ⟨f, by rw [h1]; exact hf, h2⟩
   ·rw [ho.iff] at h2
    rcases h2 with h2 | ⟨_, h2⟩
    ·rw [h1]
     exact ⟨_, g_mem hp, FiR_of h.snd (Hd_mono (fun _ _ h => h) (fun A h => (hes.iff A).1 h) h2)⟩
    ·simp [on] at h2
  ·exact h.snd _ _ h2
theorem RfC.of (h : RfS S F) (hi : S.ps[i]? = some p) (hf : F[p.l.toNat]? = some f) (ho : HbR S.nl F E [] (row p.r) o) (h' : OrP f o o.length f false) : RfC S E i F := by
 intro q hq t ht
 rw [hi] at hq; cases hq
 exact ⟨f, hf, (h'.all t).2 (.inr ((ho.iff t).2 (.inl ht)))⟩
theorem RfS.isF (hes : IsD S.g false S.ns.length E) (h : RfS S F) (hc : ∀ j, j < S.ps.length → RfC S E j F) : IsF S.g S.nl (onF F) :=
 ⟨h.snd, fun A r hm t ht => by
  obtain ⟨j, p, hj, hp, h1, h2⟩ := g_idx hm
  have := hc j hj p hp t (by rw [h2]; exact Hd_mono (fun _ _ h => h) (fun A h => (hes.iff A).2 h) ht)
  rw [h1] at this
  exact this⟩
end
theorem HdsQ.of {S : Sp} {E : List Bool} {F : List (List Bool)} {r : List Sy} {ts : List Int} {nx o : List Bool} {n : Nat} (hes : IsD S.g false S.ns.length E) (hF : IsF S.g S.nl (onF F)) (hn : NxB n ts nx) (ho : HbR S.nl F E nx (row r) o) : HdsQ S r ts (tru o 0) := by
 refine ⟨tru_rising _ _, fun t => ?_⟩
 rw [tru_mem, Nat.sub_zero, ho.iff, hn.iff]
 have h1 : Hd S.nl (onF F) (on E) (row r) t ↔ FiR S.g S.nl (row r) t := by
  rw [← hF.hd]
  exact ⟨Hd_mono (fun _ _ h => h) (fun A h => (hes.iff A).1 h), Hd_mono (fun _ _ h => h) (fun A h => (hes.iff A).2 h)⟩
 have h2 : Em (on E) (row r) ↔ NuR S.g (row r) := by
  rw [← Em_nu]
  exact Em_congr hes.iff
 rw [h1, h2]
 simp
structure NuE (S : Sp) (w : World) (g : Nat) (E : List Bool) : Prop where
 own : OwnR w 4 1 g S.ns.length S.ns.length (bls E)
 is : IsD S.g false S.ns.length E
theorem NuE.ext0 {S : Sp} {w w' : World} {g : Nat} {E : List Bool} (h : NuE S w g E) (hE : Ext [] w w') : NuE S w' g E := ⟨h.own.ext hE (by simp), h.is⟩
end Go.Proofs.YtkkpghlcmcaoiaaDoor
