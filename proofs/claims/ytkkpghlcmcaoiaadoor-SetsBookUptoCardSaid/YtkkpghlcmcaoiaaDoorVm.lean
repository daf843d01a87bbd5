import Derived.Test.YtkkpghlcmcaoiaaDoorVh
namespace Go.Vc
open Go
structure Rw where
 v : Value
 n : Nat
 xs : List Value
structure Fam (w : World) (e : TypeId) (size : Nat) (D : Nat → Prop) (L : List Rw) : Prop where
 own : ∀ (k : Nat) (x : Rw), L[k]? = some x → OwnV w e size x.v x.n x.xs
 new : ∀ (k : Nat) (x : Rw), L[k]? = some x → ∀ b ∈ ob x.v, D b
 dj : ∀ (i j : Nat) (x y : Rw), i ≠ j → L[i]? = some x → L[j]? = some y → ∀ b ∈ ob x.v, b ∉ ob y.v
section
variable {w w' : World} {e : TypeId} {size : Nat} {D : Nat → Prop} {L : List Rw} {M : List Nat}
theorem Fam.nil : Fam w e size D [] := ⟨by simp, by simp, by simp⟩
theorem Fam.ext (h : Fam w e size D L) (hE : Ext M w w') (hM : ∀ (k : Nat) (x : Rw), L[k]? = some x → ∀ b ∈ ob x.v, b ∉ M) : Fam w' e size D L :=
 ⟨fun k x hx => (h.own k x hx).ext hE (hM k x hx), h.new, h.dj⟩
theorem Fam.mono (h : Fam w e size D L) {D' : Nat → Prop} (hD : ∀ (k : Nat) (x : Rw), L[k]? = some x → ∀ b ∈ ob x.v, D' b) : Fam w e size D' L := ⟨h.own, hD, h.dj⟩
theorem Fam.ext0 (h : Fam w e size D L) (hE : Ext [] w w') : Fam w' e size D L := h.ext hE fun _ _ _ _ _ => by simp
theorem Fam.lie (h : Fam w e size D L) {k : Nat} {x : Rw} (hx : L[k]? = some x) : ∀ b ∈ ob x.v, b < w.heap.size := (h.own k x hx).lie
theorem Fam.extN (h : Fam w e size D L) {N' : Nat} (hN : w.heap.size ≤ N') (hE : Ext M w w') (hM : ∀ b ∈ M, N' ≤ b) : Fam w' e size D L :=
 h.ext hE fun k x hx b hb hm => by have := h.lie hx b hb; have := hM b hm; omega
theorem Fam.snoc (h : Fam w e size D L) {v : Value} {n : Nat} {xs : List Value} (hO : OwnV w e size v n xs) (hN : ∀ b ∈ ob v, D b) (hd : ∀ (k : Nat) (x : Rw), L[k]? = some x → ∀ b ∈ ob x.v, b ∉ ob v) : Fam w e size D (L ++ [⟨v, n, xs⟩]) := by
 have key : ∀ (k : Nat) (x : Rw), (L ++ [(⟨v, n, xs⟩ : Rw)])[k]? = some x → L[k]? = some x ∨ (k = L.length ∧ x = ⟨v, n, xs⟩) := fun k x hx => by
  rcases Nat.lt_trichotomy k L.length with hk | hk | hk
  ·rw [List.getElem?_append_left hk] at hx; exact .inl hx
  ·subst hk; simp at hx; exact .inr ⟨rfl, hx.symm⟩
  ·have := (List.getElem?_eq_some_iff.1 hx).1; simp at this; omega
 refine ⟨fun k x hx => ?_, fun k x hx => ?_, fun i j x y hij hx hy => ?_⟩
 ·rcases key k x hx with hx | ⟨_, rfl⟩
  ·exact h.own k x hx
  ·exact hO
 ·rcases key k x hx with hx | ⟨_, rfl⟩
  ·exact h.new k x hx
  ·exact hN
 ·rcases key i x hx with hx | ⟨hi, rfl⟩
  ·rcases key j y hy with hy | ⟨hj, rfl⟩
   ·exact h.dj i j x y hij hx hy
   ·exact hd i x hx
  ·rcases key j y hy with hy | ⟨hj, rfl⟩
   ·exact fun b hb hb' => hd j y hy b hb' hb
   ·omega
theorem Fam.more (h : Fam w e size D L) {v : Value} {n : Nat} {xs : List Value} (hE : Ext [] w w') (hO : OwnV w' e size v n xs) (hn : ∀ b ∈ ob v, w.heap.size ≤ b) (hN : ∀ b, w.heap.size ≤ b → D b) : Fam w' e size D (L ++ [⟨v, n, xs⟩]) :=
 (h.ext0 hE).snoc hO (fun b hb => hN b (hn b hb)) fun k x hx b hb hb' => by have := h.lie hx b hb; have := hn b hb'; omega
theorem get_set {α : Type} {l : List α} {i k : Nat} {x y a : α} (hx : l[i]? = some x) (hy : (l.set i a)[k]? = some y) : (k = i ∧ y = a) ∨ (k ≠ i ∧ l[k]? = some y) := by
 by_cases hk : k = i
 ·subst hk
  rw [List.getElem?_set_self (List.getElem?_eq_some_iff.1 hx).1] at hy
  exact .inl ⟨rfl, (Option.some.inj hy).symm⟩
 ·rw [List.getElem?_set_ne (Ne.symm hk)] at hy
  exact .inr ⟨hk, hy⟩
theorem Fam.set1 (h : Fam w e size D L) {i g cap : Nat} {x : Rw} {ys : List Value} (hx : L[i]? = some x) (hv : x.v = .slice (some ⟨g, 0, none⟩) x.n cap) (hO : OwnR w' e size g cap x.n ys) (hE : Ext [g] w w') : Fam w' e size D (L.set i ⟨x.v, x.n, ys⟩) := by
 have hg : ∀ b ∈ [g], b ∈ ob x.v := fun b hb => by rw [hv]; simpa [ob] using hb
 refine ⟨fun k y hy => ?_, fun k y hy => ?_, fun a b y z hab hy hz => ?_⟩
 ·rcases get_set hx hy with ⟨rfl, rfl⟩ | ⟨hk, hy⟩
  ·show OwnV w' e size x.v x.n ys
   rw [hv]; exact hO.v
  ·exact (h.own k y hy).ext hE fun b hb hm => h.dj k i y x hk hy hx b hb (hg b hm)
 ·rcases get_set hx hy with ⟨rfl, rfl⟩ | ⟨hk, hy⟩
  ·exact h.new k x hx
  ·exact h.new k y hy
 ·rcases get_set hx hy with ⟨rfl, rfl⟩ | ⟨hk, hy⟩
  ·rcases get_set hx hz with ⟨rfl, rfl⟩ | ⟨hk', hz⟩
   ·exact absurd rfl hab
   ·exact h.dj a b x z hab hx hz
  ·have hy1 := hy
   rcases get_set hx hz with ⟨rfl, rfl⟩ | ⟨hk', hz⟩
   ·exact h.dj a _ y x hab hy1 hx
   ·exact h.dj a b y z hab hy1 hz
end
def bl (L : List Rw) : List Nat := L.flatMap fun x => ob x.v
theorem bl_mem {L : List Rw} {k : Nat} {x : Rw} (hx : L[k]? = some x) : ∀ b ∈ ob x.v, b ∈ bl L := fun b hb => List.mem_flatMap.2 ⟨x, List.mem_of_getElem? hx, hb⟩
theorem bl_of {L : List Rw} {b : Nat} (h : b ∈ bl L) : ∃ (k : Nat) (x : Rw), L[k]? = some x ∧ b ∈ ob x.v := by
 obtain ⟨x, hx, hb⟩ := List.mem_flatMap.1 h
 obtain ⟨k, hk⟩ := List.getElem?_of_mem hx
 exact ⟨k, x, hk, hb⟩
theorem Dfr.notin {w : World} {d : Nat} (h : Dfr w d) {e : TypeId} {size n : Nat} {v : Value} {xs : List Value} (hO : OwnV w e size v n xs) : d ∉ ob v := fun hm => by
 rcases hO with ⟨rfl, _⟩ | ⟨g, cap, rfl, hO⟩
 ·cases hm
 ·have hm : d = g := by simpa [ob] using hm
  subst hm
  obtain ⟨cs, hb⟩ := hO.toBlk
  exact h.ne_blk hb rfl
theorem Fam.notT {w : World} {e : TypeId} {size : Nat} {D : Nat → Prop} {L : List Rw} (h : Fam w e size D L) {b T : Nat} {cs : Array Value} (hb : Blk w b T cs) (hT : e ≠ T) : b ∉ bl L := fun hm => by
 obtain ⟨k, x, hx, hb'⟩ := bl_of hm
 exact (h.own k x hx).notin hb hT hb'
theorem Fam.notV {w : World} {e : TypeId} {size : Nat} {D : Nat → Prop} {L : List Rw} (h : Fam w e size D L) {e' size' n' : Nat} {v' : Value} {xs' : List Value} (hO : OwnV w e' size' v' n' xs') (hT : e ≠ e') : ∀ b ∈ ob v', b ∉ bl L := fun b hb hm => by
 obtain ⟨k, x, hx, hb'⟩ := bl_of hm
 exact (h.own k x hx).disj hO hT b hb' hb
theorem Fam.blt {w : World} {e : TypeId} {size : Nat} {D : Nat → Prop} {L : List Rw} (h : Fam w e size D L) : ∀ b ∈ bl L, b < w.heap.size := fun b hm => by
 obtain ⟨k, x, hx, hb⟩ := bl_of hm
 exact h.lie hx b hb
theorem Fam.bD {w : World} {e : TypeId} {size : Nat} {D : Nat → Prop} {L : List Rw} (h : Fam w e size D L) : ∀ b ∈ bl L, D b := fun b hm => by
 obtain ⟨k, x, hx, hb⟩ := bl_of hm
 exact h.new k x hx b hb
structure Gw where
 v0 : Value
 n0 : Nat
 xs0 : List Value
 v : Value
 n : Nat
 xs : List Value
structure Fam2 (w : World) (e : TypeId) (size : Nat) (D : Nat → Prop) (L : List Gw) : Prop where
 own : ∀ (k : Nat) (x : Gw), L[k]? = some x → OwnV w e size x.v x.n x.xs
 rd : ∀ (k : Nat) (x : Gw), L[k]? = some x → RdV w size x.v0 x.n0 x.xs0
 sh : ∀ (k : Nat) (x : Gw), L[k]? = some x → x.n0 ≤ x.n ∧ x.xs0 = x.xs.take (x.n0 * size) ∧ (x.v0 = .slice none 0 0 ∨ ∃ g cap, x.v0 = .slice (some ⟨g, 0, none⟩) x.n0 cap ∧ x.n0 ≤ cap)
 new : ∀ (k : Nat) (x : Gw), L[k]? = some x → ∀ b ∈ ob x.v0 ++ ob x.v, D b ∧ b < w.heap.size
 dj : ∀ (i j : Nat) (x y : Gw), i ≠ j → L[i]? = some x → L[j]? = some y → ∀ b ∈ ob x.v0 ++ ob x.v, b ∉ ob y.v0 ++ ob y.v
def Gw.of (x : Rw) : Gw := ⟨x.v, x.n, x.xs, x.v, x.n, x.xs⟩
section
variable {w w' : World} {e : TypeId} {size : Nat} {D : Nat → Prop} {M : List Nat}
theorem map_of {L : List Rw} {k : Nat} {y : Gw} (h : (L.map Gw.of)[k]? = some y) : ∃ x, L[k]? = some x ∧ y = Gw.of x := by
 rw [List.getElem?_map] at h
 cases hx : L[k]? with
 | none => rw [hx] at h; cases h
 | some x => rw [hx] at h; exact ⟨x, rfl, (Option.some.inj h).symm⟩
theorem Fam.two {L : List Rw} (h : Fam w e size D L) : Fam2 w e size D (L.map Gw.of) := by
 refine ⟨fun k y hy => ?_, fun k y hy => ?_, fun k y hy => ?_, fun k y hy => ?_, fun i j y z hij hy hz => ?_⟩
 ·obtain ⟨x, hx, rfl⟩ := map_of hy; exact h.own k x hx
 ·obtain ⟨x, hx, rfl⟩ := map_of hy; exact (h.own k x hx).rd
 ·obtain ⟨x, hx, rfl⟩ := map_of hy
  refine ⟨Nat.le_refl _, ?_, ?_⟩
  ·show x.xs = x.xs.take (x.n * size)
   rw [List.take_of_length_le (Nat.le_of_eq (h.own k x hx).len)]
  ·rcases h.own k x hx with ⟨h1, _, _⟩ | ⟨g, cap, h1, h2⟩
   ·exact .inl h1
   ·exact .inr ⟨g, cap, h1, h2.le⟩
 ·obtain ⟨x, hx, rfl⟩ := map_of hy
  intro b hb
  have hb : b ∈ ob x.v := by rcases List.mem_append.1 hb with h | h <;> exact h
  exact ⟨h.new k x hx b hb, h.lie hx b hb⟩
 ·obtain ⟨x, hx, rfl⟩ := map_of hy
  obtain ⟨u, hu, rfl⟩ := map_of hz
  intro b hb hb'
  have hb : b ∈ ob x.v := by rcases List.mem_append.1 hb with h | h <;> exact h
  have hb' : b ∈ ob u.v := by rcases List.mem_append.1 hb' with h | h <;> exact h
  exact h.dj i j x u hij hx hu b hb hb'
theorem Fam2.ext {L : List Gw} (h : Fam2 w e size D L) (hE : Ext M w w') (hM : ∀ (k : Nat) (x : Gw), L[k]? = some x → ∀ b ∈ ob x.v0 ++ ob x.v, b ∉ M) : Fam2 w' e size D L :=
 ⟨fun k x hx => (h.own k x hx).ext hE fun b hb => hM k x hx b (List.mem_append_right _ hb), fun k x hx => (h.rd k x hx).ext hE fun b hb => hM k x hx b (List.mem_append_left _ hb), h.sh,
  fun k x hx b hb => ⟨(h.new k x hx b hb).1, Nat.lt_of_lt_of_le (h.new k x hx b hb).2 hE.size⟩, h.dj⟩
theorem Fam2.ext0 {L : List Gw} (h : Fam2 w e size D L) (hE : Ext [] w w') : Fam2 w' e size D L := h.ext hE fun _ _ _ _ _ => by simp
theorem Fam2.app {L : List Gw} (h : Fam2 w e size D L) {i k cap : Nat} {x : Gw} {bs : Option Addr} {news : List Value} (hx : L[i]? = some x) (hA : Apd w w' e size x.v bs cap x.n k x.xs news) (hN : ∀ b, w.heap.size ≤ b → D b) :
  Fam2 w' e size D (L.set i ⟨x.v0, x.n0, x.xs0, .slice bs (x.n + k) cap, x.n + k, x.xs ++ news⟩) := by
 have hE := hA.ext
 have hF := hA.fresh
 have hnew : ∀ b ∈ ob x.v0 ++ ob (.slice bs (x.n + k) cap), b ∈ ob x.v0 ++ ob x.v ∨ w.heap.size ≤ b := fun b hb => by
  rcases List.mem_append.1 hb with h1 | h1
  ·exact .inl (List.mem_append_left _ h1)
  ·exact (hF b h1).imp (List.mem_append_right _) id
 have hoth : ∀ (q : Nat) (y : Gw), q ≠ i → L[q]? = some y → ∀ b ∈ ob y.v0 ++ ob y.v, b ∉ ob x.v := fun q y hq hy b hb hm => h.dj q i y x hq hy hx b hb (List.mem_append_right _ hm)
 obtain ⟨s1, s2, s3⟩ := h.sh i x hx
 have hxl := (h.own i x hx).len
 have hpre : x.xs0 = (x.xs ++ news).take (x.n0 * size) := by
  rw [List.take_append_of_le_length (by rw [hxl]; exact Nat.mul_le_mul_right _ s1)]; exact s2
 refine ⟨fun q y hy => ?_, fun q y hy => ?_, fun q y hy => ?_, fun q y hy => ?_, fun a c y z hac hy hz => ?_⟩
 ·rcases get_set hx hy with ⟨rfl, rfl⟩ | ⟨hq, hy⟩
  ·exact hA.own
  ·exact (h.own q y hy).ext hE fun b hb => hoth q y hq hy b (List.mem_append_right _ hb)
 ·rcases get_set hx hy with ⟨rfl, rfl⟩ | ⟨hq, hy⟩
  ·show RdV w' size x.v0 x.n0 x.xs0
   rcases hA.how with ⟨_, hE0⟩ | ⟨c, hv⟩
   ·exact (h.rd q x hx).ext0 hE0
   ·rcases s3 with h0 | ⟨g0, c0, h0, h0c⟩
    ·exact (h.rd q x hx).ext hE fun b hb => by rw [h0] at hb; cases hb
    ·by_cases hm : g0 ∈ ob x.v
     ·have ho := hA.own
      rcases ho with ⟨h1, _, _⟩ | ⟨g, cp, h1, h2⟩
      ·simp only [Value.slice.injEq] at h1
       rw [hv, h1.1] at hm; cases hm
      ·simp only [Value.slice.injEq, true_and] at h1
       obtain ⟨hb, rfl⟩ := h1
       rw [hv, hb] at hm
       have hg : g0 = g := by simpa [ob] using hm
       subst hg
       refine .inr ⟨g0, 0, c0, h0, (h.rd q x hx).len, h0c, fun j u hu => ?_⟩
       rw [Nat.zero_add]
       refine h2.cellAt j ?_
       rw [hpre, List.getElem?_take] at hu
       split at hu
       ·exact hu
       ·cases hu
     ·exact (h.rd q x hx).ext hE fun b hb => by
       rw [h0] at hb
       have hb : b = g0 := by simpa [ob] using hb
       subst hb; exact hm
  ·exact (h.rd q y hy).ext hE fun b hb => hoth q y hq hy b (List.mem_append_left _ hb)
 ·rcases get_set hx hy with ⟨rfl, rfl⟩ | ⟨hq, hy⟩
  ·exact ⟨Nat.le_trans s1 (Nat.le_add_right _ _), hpre, s3⟩
  ·exact h.sh q y hy
 ·rcases get_set hx hy with ⟨rfl, rfl⟩ | ⟨hq, hy⟩
  ·intro b hb
   have hsz := hE.size
   refine ⟨?_, ?_⟩
   ·rcases hnew b hb with h1 | h1
    ·exact (h.new q x hx b h1).1
    ·exact hN b h1
   ·rcases List.mem_append.1 hb with h1 | h1
    ·have := (h.new q x hx b (List.mem_append_left _ h1)).2; omega
    ·exact hA.own.lie b h1
  ·exact fun b hb => ⟨(h.new q y hy b hb).1, Nat.lt_of_lt_of_le (h.new q y hy b hb).2 hE.size⟩
 ·have one : ∀ (q : Nat) (y : Gw), q ≠ i → L[q]? = some y → ∀ b ∈ ob x.v0 ++ ob (.slice bs (x.n + k) cap), b ∉ ob y.v0 ++ ob y.v := fun q y hq hy b hb hb' => by
   rcases hnew b hb with h1 | h1
   ·exact h.dj q i y x hq hy hx b hb' h1
   ·have := (h.new q y hy b hb').2; omega
  rcases get_set hx hy with ⟨rfl, rfl⟩ | ⟨hq, hy⟩
  ·rcases get_set hx hz with ⟨rfl, rfl⟩ | ⟨hq', hz⟩
   ·exact absurd rfl hac
   ·exact one c z hq' hz
  ·have hy1 := hy
   have hq1 := hq
   rcases get_set hx hz with ⟨rfl, rfl⟩ | ⟨hq', hz⟩
   ·exact fun b hb hb' => one a y hq1 hy1 b hb' hb
   ·exact h.dj a c y z hac hy1 hz
end
/-! ### marks -/
def Mk (size : Nat) (f : Nat → Nat → List Value) (L : List Rw) (i j : Nat) : Prop :=
 ∀ (k q r : Nat) (x : Rw), L[k]? = some x → q < x.n → r < size → (k < i ∨ (k = i ∧ q < j)) → x.xs[q * size + r]? = (f k q)[r]?
theorem Mk.start {size : Nat} {f : Nat → Nat → List Value} {L : List Rw} : Mk size f L 0 0 := fun k q r x _ _ _ h => by omega
theorem Mk.next {size : Nat} {f : Nat → Nat → List Value} {L : List Rw} {i j : Nat} {x : Rw} (h : Mk size f L i j) (hx : L[i]? = some x) (hj : x.n ≤ j) : Mk size f L (i + 1) 0 := fun k q r y hy hq hr hk => by
 refine h k q r y hy hq hr ?_
 by_cases hki : k = i
 ·subst hki
  rw [hx] at hy; cases hy
  exact .inr ⟨rfl, by omega⟩
 ·exact .inl (by omega)
theorem Mk.step {size : Nat} {f : Nat → Nat → List Value} {L : List Rw} {i j : Nat} {x : Rw} {ys : List Value} (h : Mk size f L i j) (hx : L[i]? = some x)
  (hy : ∀ q r, q < x.n → r < size → ys[q * size + r]? = if q = j then (f i j)[r]? else x.xs[q * size + r]?) : Mk size f (L.set i ⟨x.v, x.n, ys⟩) i (j + 1) := fun k q r y hk hq hr hkq => by
 rcases get_set hx hk with ⟨rfl, rfl⟩ | ⟨hne, hk⟩
 ·show ys[q * size + r]? = _
  rw [hy q r hq hr]
  by_cases hqj : q = j
  ·rw [if_pos hqj, hqj]
  ·rw [if_neg hqj]; exact h k q r x hx hq hr (.inr ⟨rfl, by omega⟩)
 ·exact h k q r y hk hq hr (by omega)
theorem set1_mk {xs fv : List Value} {u : Value} {n j : Nat} (hl : xs.length = n * 1) (hj : j < n) (hf : fv = [u]) : ∀ q r, q < n → r < 1 → (xs.set (0 + j * 1) u)[q * 1 + r]? = if q = j then fv[r]? else xs[q * 1 + r]? := fun q r hq hr => by
 obtain rfl : r = 0 := by omega
 subst hf
 simp only [Nat.zero_add, Nat.mul_one, Nat.add_zero]
 by_cases hqj : q = j
 ·rw [if_pos hqj, hqj, List.getElem?_set_self (by omega)]; rfl
 ·rw [if_neg hqj, List.getElem?_set_ne (Ne.symm hqj)]
def setL : List Value → Nat → List Value → List Value
 | xs, _, [] => xs
 | xs, off, v :: vs => setL (xs.set off v) (off + 1) vs
theorem setL_len : ∀ (vs xs : List Value) (off : Nat), (setL xs off vs).length = xs.length
 | [], _, _ => rfl
 | v :: vs, xs, off => by rw [setL, setL_len vs, List.length_set]
theorem setAt_take : ∀ (vs : List Value) (cs : Array Value) (off k : Nat), (setAt cs off vs).toList.take k = setL (cs.toList.take k) off vs
 | [], _, _, _ => rfl
 | v :: vs, cs, off, k => by rw [setAt, setAt_take vs, setL, Array.toList_setIfInBounds, List.take_set]
theorem setL_at : ∀ (vs xs : List Value) (off p : Nat), off + vs.length ≤ xs.length → (setL xs off vs)[p]? = if off ≤ p ∧ p < off + vs.length then vs[p - off]? else xs[p]?
 | [], xs, off, p, _ => by rw [setL, if_neg (by simp only [List.length_nil]; omega)]
 | v :: vs, xs, off, p, h => by
  rw [setL, setL_at vs (xs.set off v) (off + 1) p (by rw [List.length_set]; simp at h; omega)]
  simp only [List.length_cons] at h ⊢
  by_cases h1 : p = off
  ·subst h1
   rw [if_neg (by omega), if_pos (by omega), List.getElem?_set_self (by omega), Nat.sub_self]; rfl
  ·by_cases h2 : off + 1 ≤ p ∧ p < off + 1 + vs.length
   ·rw [if_pos h2, if_pos (by omega), show p - off = (p - (off + 1)) + 1 by omega, List.getElem?_cons_succ]
   ·rw [if_neg h2, if_neg (by omega), List.getElem?_set_ne (Ne.symm h1)]
theorem OwnR.setN {w : World} {e : TypeId} {size g cap n off : Nat} {xs vs : List Value} {cs : Array Value} (hb : Blk w g e cs) (hs : cs.size = cap * size) (ht : cs.toList.take (n * size) = xs) (h1 : n ≤ cap) (h2 : cap ≤ maxLen) (h3 : xs.length = n * size) :
  OwnR (upd w g e (setAt cs off vs)) e size g cap n (setL xs off vs) :=
 ⟨⟨_, hb.upd _ _, by rw [setAt_size]; exact hs, by rw [setAt_take, ht]⟩, h1, h2, by rw [setL_len]; exact h3⟩
theorem eff_store_ownN {F : Fence} {P : Program} {ops : Array Oper} {Q : Exit → Act → World → Prop} {a : Act} {w : World} {n : Nat} {ds : List Deferred} {m : Fm} (hW : Wide F) {i r : Nat} {b off size cap len : Nat} {vs : List Value} {e : TypeId} {xs : List Value} (hS : St n ds m a) (ho : storeOf P ops n m i = some (b, off, vs)) (hO : OwnR w e size b cap len xs)
  (hlt : off + vs.length ≤ len * size)
  (hk : ∀ a' w', OwnR w' e size b cap len (setL xs off vs) → Ext [b] w w' → w'.heap.size = w.heap.size → St n ds m a' → wpOpsIn F 0 P ops Q (List.range' (i + 1) r) a' w') :
  wpOpsIn F 0 P ops Q (List.range' i (r + 1)) a w := by
 obtain ⟨⟨cur, hb, hs, ht⟩, h1, h2, h3⟩ := hO
 have hm : len * size ≤ cap * size := Nat.mul_le_mul_right _ h1
 refine eff_store hW hS ho hb (by omega) fun a' w' hw hS' => ?_
 subst hw
 exact hk _ _ (OwnR.setN hb hs ht h1 h2 h3) ((Ext.refl [b] w).updIn (.inl (by simp)) _ _) upd_size hS'
theorem one_mk {fv : List Value} {u : Value} (h : fv = [u]) : ∀ r, r < 1 → [u][r]? = fv[r]? := fun r _ => by rw [h]
theorem set_keep {α β : Type} {l : List α} {i : Nat} {x y : α} {f : α → β} (hx : l[i]? = some x) (hf : f y = f x) : (l.set i y).map f = l.map f := by
 refine List.ext_getElem? fun k => ?_
 rw [List.getElem?_map, List.getElem?_map]
 by_cases hk : k = i
 ·subst hk
  rw [List.getElem?_set_self (List.getElem?_eq_some_iff.1 hx).1, hx]
  simp [hf]
 ·rw [List.getElem?_set_ne (Ne.symm hk)]
theorem map_all {α β : Type} {K L : List α} {f : α → β} {p : β → Prop} (h : K.map f = L.map f) (hp : ∀ x ∈ L, p (f x)) : ∀ x ∈ K, p (f x) := fun x hx => by
 have h1 : f x ∈ K.map f := List.mem_map_of_mem hx
 rw [h] at h1
 obtain ⟨y, hy, he⟩ := List.mem_map.1 h1
 rw [← he]; exact hp y hy
theorem map_at {α β : Type} {K : List α} {l : List β} {f : α → β} (h : K.map f = l) {i : Nat} {x : α} (hx : K[i]? = some x) : l[i]? = some (f x) := by rw [← h, List.getElem?_map, hx]; rfl
theorem take_snoc {α β : Type} {l : List α} {i : Nat} {x : α} {f : α → β} (hx : l[i]? = some x) : (l.take (i + 1)).map f = (l.take i).map f ++ [f x] := by
 rw [List.take_add_one, hx, List.map_append]; rfl
theorem take_set {α β : Type} {l : List α} {i : Nat} {y : α} {f : α → β} : ((l.set i y).take i).map f = (l.take i).map f := by rw [List.take_set_of_le (Nat.le_refl _)]
def cnt (T i j k : Nat) : Nat := if k < i then T else if k = i then j else 0
structure Mg (size T : Nat) (f t : Nat → Nat → List Value) (L : List Gw) (i j : Nat) : Prop where
 m : ∀ (k q r : Nat) (x : Gw), L[k]? = some x → q < x.n0 → r < size → x.xs0[q * size + r]? = (f k q)[r]?
 n : ∀ (k : Nat) (x : Gw), L[k]? = some x → x.n = x.n0 + cnt T i j k
 t : ∀ (k q r : Nat) (x : Gw), L[k]? = some x → q < cnt T i j k → r < size → x.xs[(x.n0 + q) * size + r]? = (t k q)[r]?
theorem Mk.two {size T : Nat} {f t : Nat → Nat → List Value} {L : List Rw} (h : Mk size f L L.length 0) : Mg size T f t (L.map Gw.of) 0 0 := by
 refine ⟨fun k q r y hy hq hr => ?_, fun k y hy => ?_, fun k q r y hy hq hr => ?_⟩
 ·obtain ⟨x, hx, rfl⟩ := map_of hy
  exact h k q r x hx hq hr (.inl (List.getElem?_eq_some_iff.1 hx).1)
 ·obtain ⟨x, hx, rfl⟩ := map_of hy
  show x.n = x.n + cnt T 0 0 k
  have h0 : cnt T 0 0 k = 0 := by unfold cnt; rw [if_neg (Nat.not_lt_zero _)]; split <;> rfl
  rw [h0]; rfl
 ·have h0 : cnt T 0 0 k = 0 := by unfold cnt; rw [if_neg (Nat.not_lt_zero _)]; split <;> rfl
  rw [h0] at hq; omega
theorem Mg.next {size T : Nat} {f t : Nat → Nat → List Value} {L : List Gw} {i : Nat} (h : Mg size T f t L i T) : Mg size T f t L (i + 1) 0 := by
 have hc : ∀ k, cnt T (i + 1) 0 k = cnt T i T k := fun k => by
  unfold cnt
  by_cases h1 : k < i
  ·rw [if_pos (by omega), if_pos h1]
  ·by_cases h2 : k = i
   ·rw [if_pos (by omega), if_neg h1, if_pos h2]
   ·rw [if_neg (by omega), if_neg h1, if_neg h2]; split <;> rfl
 exact ⟨h.m, fun k x hx => by rw [hc]; exact h.n k x hx, fun k q r x hx hq hr => by rw [hc] at hq; exact h.t k q r x hx hq hr⟩
theorem Mg.step {size T : Nat} {f t : Nat → Nat → List Value} {L : List Gw} {i j : Nat} {x : Gw} {v : Value} {news : List Value} (h : Mg size T f t L i j) (hx : L[i]? = some x) (hl : x.xs.length = x.n * size) (hn : ∀ r, r < size → news[r]? = (t i j)[r]?) :
  Mg size T f t (L.set i ⟨x.v0, x.n0, x.xs0, v, x.n + 1, x.xs ++ news⟩) i (j + 1) := by
 have hxn := h.n i x hx
 have hci : cnt T i j i = j := by unfold cnt; rw [if_neg (Nat.lt_irrefl _), if_pos rfl]
 have hci' : cnt T i (j + 1) i = j + 1 := by unfold cnt; rw [if_neg (Nat.lt_irrefl _), if_pos rfl]
 have hck : ∀ k, k ≠ i → cnt T i (j + 1) k = cnt T i j k := fun k hk => by unfold cnt; rw [if_neg hk, if_neg hk]
 rw [hci] at hxn
 refine ⟨fun k q r y hy hq hr => ?_, fun k y hy => ?_, fun k q r y hy hq hr => ?_⟩
 ·rcases get_set hx hy with ⟨rfl, rfl⟩ | ⟨hk, hy⟩
  ·exact h.m k q r x hx hq hr
  ·exact h.m k q r y hy hq hr
 ·rcases get_set hx hy with ⟨rfl, rfl⟩ | ⟨hk, hy⟩
  ·rw [hci']; show x.n + 1 = x.n0 + (j + 1); omega
  ·rw [hck k hk]; exact h.n k y hy
 ·rcases get_set hx hy with ⟨rfl, rfl⟩ | ⟨hk, hy⟩
  ·rw [hci'] at hq
   show (x.xs ++ news)[(x.n0 + q) * size + r]? = _
   by_cases hqj : q = j
   ·subst hqj
    have h1 : (x.n0 + q) * size + r = x.xs.length + r := by rw [hl, hxn]
    rw [h1, List.getElem?_append_right (Nat.le_add_right _ _), Nat.add_sub_cancel_left]
    exact hn r hr
   ·have h1 : (x.n0 + q) * size + r < x.xs.length := by
     rw [hl]
     have : (x.n0 + q + 1) * size ≤ x.n * size := Nat.mul_le_mul_right _ (by omega)
     rw [Nat.add_mul, Nat.one_mul] at this
     omega
    rw [List.getElem?_append_left h1]
    exact h.t k q r x hx (by rw [hci]; omega) hr
  ·rw [hck k hk] at hq; exact h.t k q r y hy hq hr
end Go.Vc
