/- Steps towards a least fixed point, told once for all instances; and the instance of made. No program. -/
import Derived.Test.YtkkpghlcmcaoiaaDoorSp
namespace Go.Proofs.YtkkpghlcmcaoiaaDoor
open Go.Vc Go.Gm

/-- a pass over productions as far as i: what is sound stays sound; nothing grew: it is as it was, and closed under what was passed; it grew: the measure fell -/
structure Stp {X : Type} (Snd : X → Prop) (Cl : Nat → X → Prop) (mu : X → Nat) (i : Nat) (x0 x : X) (gr : Bool) : Prop where
  snd : Snd x
  cl : gr = false → x = x0 ∧ ∀ j, j < i → Cl j x
  lt : gr = true → mu x < mu x0
section
variable {X : Type} {Snd : X → Prop} {Cl : Nat → X → Prop} {mu : X → Nat} {i : Nat} {x0 x y : X} {gr : Bool}
theorem Stp.start (h : Snd x) : Stp Snd Cl mu 0 x x false := ⟨h, fun _ => ⟨rfl, fun j hj => by omega⟩, fun h => by cases h⟩
theorem Stp.skip (h : Stp Snd Cl mu i x0 x gr) (hc : Cl i x) : Stp Snd Cl mu (i + 1) x0 x gr :=
  ⟨h.snd, fun hg => ⟨(h.cl hg).1, fun j hj => by
    rcases Nat.lt_succ_iff_lt_or_eq.1 hj with h1 | h1
    · exact (h.cl hg).2 j h1
    · rw [h1]; exact hc⟩, h.lt⟩
theorem Stp.le (h : Stp Snd Cl mu i x0 x gr) : mu x ≤ mu x0 := by
  cases gr with
  | false => rw [(h.cl rfl).1]; exact Nat.le_refl _
  | true => exact Nat.le_of_lt (h.lt rfl)
theorem Stp.set (h : Stp Snd Cl mu i x0 x gr) (hs : Snd y) (hm : mu y < mu x) : Stp Snd Cl mu (i + 1) x0 y true :=
  ⟨hs, fun h => by (cases h), fun _ => Nat.lt_of_lt_of_le hm h.le⟩
end

theorem drop_of {α : Type} {l : List α} {i : Nat} {x : α} (h : l[i]? = some x) : l.drop i = x :: l.drop (i + 1) := by
  obtain ⟨hi, he⟩ := List.getElem?_eq_some_iff.1 h
  rw [List.drop_eq_getElem_cons hi, he]
theorem g_at {S : Sp} {i : Nat} {p : Pd} (h : S.ps[i]? = some p) : S.g[i]? = some (p.l.toNat, row p.r) := by
  rw [Sp.g, List.getElem?_map, h]; rfl
theorem g_idx {S : Sp} {A : Nat} {r : List Sm} (h : (A, r) ∈ S.g) : ∃ j p, j < S.ps.length ∧ S.ps[j]? = some p ∧ p.l.toNat = A ∧ row p.r = r := by
  obtain ⟨p, hp, h1, h2⟩ := g_of h
  obtain ⟨j, hj⟩ := List.getElem?_of_mem hp
  exact ⟨j, p, (List.getElem?_eq_some_iff.1 hj).1, hj, h1, h2⟩
theorem row_at {r : List Sy} {k : Nat} {x : Sy} (h : r[k]? = some x) : (row r).drop k = sm x :: (row r).drop (k + 1) := drop_of (by rw [row, List.getElem?_map, h]; rfl)
theorem row_len (r : List Sy) : (row r).length = r.length := by rw [row, List.length_map]
theorem Ix.pl {S : Sp} (h : Ix S) {p : Pd} (hp : p ∈ S.ps) : 0 ≤ p.l ∧ p.l < S.ns.length := h.left p hp
theorem Ix.name {S : Sp} (h : Ix S) {p : Pd} (hp : p ∈ S.ps) {x : Sy} (hx : x ∈ p.r) (h3 : x.1 = 3) : 0 ≤ x.2 ∧ x.2 < S.ns.length := by
  rcases h.right p hp x hx with ⟨h, _⟩ | ⟨h, _⟩ | ⟨_, h⟩
  · omega
  · omega
  · exact h
theorem Ix.kinds {S : Sp} (h : Ix S) {p : Pd} (hp : p ∈ S.ps) {x : Sy} (hx : x ∈ p.r) : (x.1 = 1 ∧ 0 ≤ x.2 ∧ x.2 < S.lx.length ∧ sm x = .t x.2.toNat) ∨ (x.1 = 2 ∧ x.2 = 0 ∧ sm x = .e) ∨ (x.1 = 3 ∧ 0 ≤ x.2 ∧ x.2 < S.ns.length ∧ sm x = .m x.2.toNat) := by
  rcases h.right p hp x hx with ⟨h, h1, h2, _⟩ | ⟨h, h1⟩ | ⟨h, h1, h2⟩
  · exact .inl ⟨h, h1, h2, by simp [sm, h]⟩
  · exact .inr (.inl ⟨h, h1, by simp [sm, h]⟩)
  · exact .inr (.inr ⟨h, h1, h2, by simp [sm, h]⟩)

/-! ### rows of bools -/
def bls (bs : List Bool) : List Value := bs.map .bool
theorem bls_at {bs : List Bool} {j : Nat} {b : Bool} (h : bs[j]? = some b) : (bls bs)[0 + j * 1]? = some (.bool b) := by rw [Nat.zero_add, Nat.mul_one, bls, List.getElem?_map, h]; rfl
theorem bls_at' {bs : List Bool} {j : Nat} {b : Bool} (h : bs[j]? = some b) : (bls bs)[j * 1]? = some (.bool b) := by rw [Nat.mul_one, bls, List.getElem?_map, h]; rfl
theorem bls_set (bs : List Bool) (j : Nat) (b : Bool) : (bls bs).set (0 + j * 1) (.bool b) = bls (bs.set j b) := by rw [Nat.zero_add, Nat.mul_one, bls, bls, List.map_set]
theorem bls_len (bs : List Bool) : (bls bs).length = bs.length := by simp [bls]
theorem bls_rep (n : Nat) : List.replicate n (Value.bool false) = bls (List.replicate n false) := by simp [bls]
theorem on_set {bs : List Bool} {j A : Nat} (hj : j < bs.length) : on (bs.set j true) A ↔ A = j ∨ on bs A := by
  unfold on
  rw [List.getElem?_set]
  split
  · rename_i h; subst h; simp [hj]
  · rename_i h; constructor
    · exact fun h => .inr h
    · rintro (h1 | h1)
      · exact absurd h1.symm h
      · exact h1
theorem off_of {bs : List Bool} {j : Nat} (h : bs[j]? = some false) : ¬on bs j := by unfold on; rw [h]; simp
theorem count_on {bs : List Bool} {j : Nat} (h : bs[j]? = some false) : (bs.set j true).count false < bs.count false := by
  have := count_set bs j h
  omega
/-! ### made -/
def okS (gd : Bool) (bs : List Bool) : Sm → Bool
  | .m B => bs[B]?.getD false
  | _ => gd
def okA (gd : Bool) (bs : List Bool) (r : List Sm) : Bool := r.all (okS gd bs)
theorem okA_iff {gd : Bool} {bs : List Bool} {r : List Sm} : okA gd bs r = true ↔ okR gd bs r := by
  unfold okA okR
  rw [List.all_eq_true]
  constructor
  · intro h
    refine ⟨fun B hB => ?_, ?_⟩
    · have := h _ hB
      simp only [okS] at this
      unfold on
      cases hb : bs[B]? with
      | none => rw [hb] at this; cases this
      | some b => rw [hb] at this; simp at this; rw [this]
    · cases gd with
      | true => exact .inl rfl
      | false =>
        refine .inr fun x hx => ?_
        have := h x hx
        cases x <;> simp_all [okS, Sm.isM]
  · rintro ⟨h1, h2⟩ x hx
    cases x with
    | m B => have := h1 B hx; unfold on at this; simp [okS, this]
    | t n => rcases h2 with h2 | h2
             · simp [okS, h2]
             · have := h2 _ hx; cases this
    | e => rcases h2 with h2 | h2
           · simp [okS, h2]
           · have := h2 _ hx; cases this
abbrev MdS (S : Sp) (gd : Bool) (bs : List Bool) : Prop := bs.length = S.ns.length ∧ ∀ A, on bs A → Der S.g gd A
abbrev MdC (S : Sp) (gd : Bool) (j : Nat) (bs : List Bool) : Prop := ∀ A r, S.g[j]? = some (A, r) → okR gd bs r → on bs A
abbrev falses (bs : List Bool) : Nat := bs.count false
abbrev MdP (S : Sp) (gd : Bool) := Stp (MdS S gd) (MdC S gd) falses
theorem MdS.set {S : Sp} {gd : Bool} {bs : List Bool} (h : MdS S gd bs) {p : Pd} (hp : p ∈ S.ps) (hl : p.l.toNat < S.ns.length) (ho : okA gd bs (row p.r) = true) : MdS S gd (bs.set p.l.toNat true) := by
  refine ⟨by rw [List.length_set]; exact h.1, fun A hA => ?_⟩
  rcases (on_set (by rw [h.1]; exact hl)).1 hA with rfl | hA
  · obtain ⟨h1, h2⟩ := okA_iff.1 ho
    exact .mk _ _ (g_mem hp) (fun B hB => h.2 B (h1 B hB)) h2
  · exact h.2 A hA
theorem MdC.on {S : Sp} {gd : Bool} {bs : List Bool} {i : Nat} {p : Pd} (hi : S.ps[i]? = some p) (h : Gm.on bs p.l.toNat) : MdC S gd i bs := fun A r hr _ => by
  rw [g_at hi] at hr; cases hr; exact h
theorem MdC.off {S : Sp} {gd : Bool} {bs : List Bool} {i : Nat} {p : Pd} (hi : S.ps[i]? = some p) (h : okA gd bs (row p.r) = false) : MdC S gd i bs := fun A r hr ho => by
  rw [g_at hi] at hr; cases hr
  have := okA_iff.2 ho
  rw [h] at this; cases this
theorem MdP.isD {S : Sp} {gd : Bool} {bs : List Bool} (h : MdS S gd bs) (hc : ∀ j, j < S.ps.length → MdC S gd j bs) : IsD S.g gd S.ns.length bs :=
  ⟨h.1, fun A => ⟨h.2 A, fun hd => Der.of_closed (fun A r hm ho => by
    obtain ⟨j, p, hj, hp, h1, h2⟩ := g_idx hm
    exact hc j hj A r (by rw [g_at hp, h1, h2]) ho) hd⟩⟩
theorem MdS.start (S : Sp) (gd : Bool) : MdS S gd (List.replicate S.ns.length false) := by
  refine ⟨List.length_replicate, fun A hA => ?_⟩
  unfold on at hA
  rw [List.getElem?_replicate] at hA
  split at hA
  · simp at hA
  · cases hA
theorem md_cases {bs : List Bool} {n : Nat} {x : Sy} (hl : bs.length = n) (hx : x.1 = 3 → 0 ≤ x.2 ∧ x.2 < n) : (x.1 = 3 ∧ bs[x.2.toNat]? = some true) ∨ (x.1 = 3 ∧ bs[x.2.toNat]? = some false) ∨ x.1 ≠ 3 := by
  by_cases h : x.1 = 3
  · have := hx h
    obtain ⟨b, hb⟩ : ∃ b, bs[x.2.toNat]? = some b := ⟨_, List.getElem?_eq_getElem (by omega)⟩
    cases b
    · exact .inr (.inl ⟨h, hb⟩)
    · exact .inl ⟨h, hb⟩
  · exact .inr (.inr h)
theorem okS_m {gd : Bool} {bs : List Bool} {x : Sy} {b : Bool} (h : x.1 = 3) (hb : bs[x.2.toNat]? = some b) : okS gd bs (sm x) = b := by
  rw [sm_name h]; simp [okS, hb]
theorem okS_o {gd : Bool} {bs : List Bool} {x : Sy} (h : x.1 ≠ 3) : okS gd bs (sm x) = gd := by
  unfold sm
  rw [if_neg h]
  split <;> rfl
theorem okA_step {gd : Bool} {bs : List Bool} {r : List Sy} {k : Nat} {x : Sy} (h : r[k]? = some x) : okA gd bs ((row r).drop k) = (okS gd bs (sm x) && okA gd bs ((row r).drop (k + 1))) := by
  rw [row_at h]; rfl
/-- the first that is off, or -1 -/
def fF : List Bool → Nat → Int
  | [], _ => -1
  | b :: l, i => if b = true then fF l (i + 1) else i
theorem fF_step {bs : List Bool} {i : Nat} {b : Bool} (h : bs[i]? = some b) : fF (bs.drop i) i = if b = true then fF (bs.drop (i + 1)) (i + 1) else i := by rw [drop_of h]; rfl
theorem fF_neg : ∀ {bs : List Bool} {i : Nat}, fF bs i < 0 ↔ ∀ b ∈ bs, b = true
  | [], _ => by simp [fF]
  | b :: l, i => by
    have ih := fF_neg (bs := l) (i := i + 1)
    rw [fF]
    cases b
    · simp
    · simpa using ih
theorem MdS.rep (S : Sp) (gd : Bool) : List.replicate (S.ns.length * 1) (Value.bool false) = bls (List.replicate S.ns.length false) := by rw [Nat.mul_one, bls_rep]
theorem dec_not {z : Int} {b : Bool} (h : 0 ≤ z ↔ b = false) : decide (z ≥ 0) = !b := by
  cases b
  · exact decide_eq_true (h.2 rfl)
  · exact decide_eq_false fun h1 => by have := h.1 h1; cases this
theorem bool_cases {bs : List Bool} {j : Nat} (h : j < bs.length) : bs[j]? = some true ∨ bs[j]? = some false := by
  rw [List.getElem?_eq_getElem h]
  cases bs[j] <;> simp
end Go.Proofs.YtkkpghlcmcaoiaaDoor
