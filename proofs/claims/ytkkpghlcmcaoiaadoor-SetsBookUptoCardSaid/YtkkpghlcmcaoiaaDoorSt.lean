import Derived.Test.YtkkpghlcmcaoiaaDoorSp
namespace Go.Proofs.YtkkpghlcmcaoiaaDoor
open Go.Vc Go.Gm
structure Stp {X : Type} (Snd : X → Prop) (Cl : Nat → X → Prop) (mu : X → Nat) (i : Nat) (x0 x : X) (gr : Bool) : Prop where
 snd : Snd x
 cl : gr = false → x = x0 ∧ ∀ j, j < i → Cl j x
 lt : gr = true → mu x < mu x0
section
variable {X : Type} {Snd : X → Prop} {Cl : Nat → X → Prop} {mu : X → Nat} {i : Nat} {x0 x y : X} {gr : Bool}
theorem Stp.start (h : Snd x) : Stp Snd Cl mu 0 x x false := ⟨h, fun _ => ⟨rfl, fun j hj => by omega⟩, fun h => by cases h⟩
theorem Stp.skip (h : Stp Snd Cl mu i x0 x gr) (hc : Cl i x) : Stp Snd Cl mu (i + 1) x0 x gr :=
 ⟨h.snd, fun hg => ⟨(h.cl hg).1, fun j hj => by
  rcases Nat.lt_succ_iff_lt_or_eq.1 hj with h1 | h1
  ·exact (h.cl hg).2 j h1
  ·rw [h1]; exact hc⟩, h.lt⟩
theorem Stp.le (h : Stp Snd Cl mu i x0 x gr) : mu x ≤ mu x0 := by
 cases gr with
 | false => rw [(h.cl rfl).1]; exact Nat.le_refl _
 | true => exact Nat.le_of_lt (h.lt rfl)
theorem Stp.set (h : Stp Snd Cl mu i x0 x gr) (hs : Snd y) (hm : mu y < mu x) : Stp Snd Cl mu (i + 1) x0 y true :=
 ⟨hs, fun h => by (cases h), fun _ => Nat.lt_of_lt_of_le hm h.le⟩
end
theorem drop_of {α : Type} {l : List α} {i : Nat} {x : α} (h : l[i]? = some x) : l.drop i = x :: l.drop (i + 1) := by
 obtain ⟨hi, he⟩ := List.getElem?_eq_some_iff.1 h
 rw [List.drop_eq_getElem_cons hi, he]
theorem g_at {S : Sp} {i : Nat} {p : Pd} (h : S.ps[i]? = some p) : S.g[i]? = some (p.l.toNat, row p.r) := by
 rw [Sp.g, List.getElem?_map, h]; rfl
theorem g_idx {S : Sp} {A : Nat} {r : List Sm} (h : (A, r) ∈ S.g) : ∃ j p, j < S.ps.length ∧ S.ps[j]? = some p ∧ p.l.toNat = A ∧ row p.r = r := by
 obtain ⟨p, hp, h1, h2⟩ := g_of h
 obtain ⟨j, hj⟩ := List.getElem?_of_mem hp
 exact ⟨j, p, (List.getElem?_eq_some_iff.1 hj).1, hj, h1, h2⟩
theorem row_at {r : List Sy} {k : Nat} {x : Sy} (h : r[k]? = some x) : (row r).drop k = sm x :: (row r).drop (k + 1) := drop_of (by rw [row, List.getElem?_map, h]; rfl)
theorem row_len (r : List Sy) : (row r).length = r.length := by rw [row, List.length_map]
theorem Ix.pl {S : Sp} (h : Ix S) {p : Pd} (hp : p ∈ S.ps) : 0 ≤ p.l ∧ p.l < S.ns.length := h.left p hp
theorem Ix.name {S : Sp} (h : Ix S) {p : Pd} (hp : p ∈ S.ps) {x : Sy} (hx : x ∈ p.r) (h3 : x.1 = 3) : 0 ≤ x.2 ∧ x.2 < S.ns.length := by
 rcases h.right p hp x hx with ⟨h, _⟩ | ⟨h, _⟩ | ⟨_, h⟩
 ·omega
 ·omega
 ·exact h
theorem Ix.kinds {S : Sp} (h : Ix S) {p : Pd} (hp : p ∈ S.ps) {x : Sy} (hx : x ∈ p.r) : (x.1 = 1 ∧ 0 ≤ x.2 ∧ x.2 < S.lx.length ∧ sm x = .t x.2.toNat) ∨ (x.1 = 2 ∧ x.2 = 0 ∧ sm x = .e) ∨ (x.1 = 3 ∧ 0 ≤ x.2 ∧ x.2 < S.ns.length ∧ sm x = .m x.2.toNat) := by
 rcases h.right p hp x hx with ⟨h, h1, h2, _⟩ | ⟨h, h1⟩ | ⟨h, h1, h2⟩
 ·exact .inl ⟨h, h1, h2, by simp [sm, h]⟩
 ·exact .inr (.inl ⟨h, h1, by simp [sm, h]⟩)
 ·exact .inr (.inr ⟨h, h1, h2, by simp [sm, h]⟩)
/-! ### rows of bools -/
def bls (bs : List Bool) : List Value := bs.map .bool
theorem bls_at {bs : List Bool} {j : Nat} {b : Bool} (h : bs[j]? = some b) : (bls bs)[0 + j * 1]? = some (.bool b) := by rw [Nat.zero_add, Nat.mul_one, bls, List.getElem?_map, h]; rfl
theorem bls_at' {bs : List Bool} {j : Nat} {b : Bool} (h : bs[j]? = some b) : (bls bs)[j * 1]? = some (.bool b) := by rw [Nat.mul_one, bls, List.getElem?_map, h]; rfl
theorem bls_set (bs : List Bool) (j : Nat) (b : Bool) : (bls bs).set (0 + j * 1) (.bool b) = bls (bs.set j b) := by rw [Nat.zero_add, Nat.mul_one, bls, bls, List.map_set]
theorem bls_len (bs : List Bool) : (bls bs).length = bs.length := by simp [bls]
theorem bls_rep (n : Nat) : List.replicate n (Value.bool false) = bls (List.replicate n false) := by simp [bls]
theorem on_set {bs : List Bool} {j A : Nat} (hj : j < bs.length) : on (bs.set j true) A ↔ A = j ∨ on bs A := by
 unfold on
 rw [List.getElem?_set]
 split
 ·rename_i h; subst h; simp [hj]
 ·rename_i h; constructor
  ·exact fun h => .inr h
  ·rintro (h1 | h1)
   ·exact absurd h1.symm h
   ·exact h1
theorem off_of {bs : List Bool} {j : Nat} (h : bs[j]? = some false) : ¬on bs j := by unfold on; rw [h]; simp
theorem count_on {bs : List Bool} {j : Nat} (h : bs[j]? = some false) : (bs.set j true).count false < bs.count false := by
 have := count_set bs j h
 omega
/-! ### made -/
def okS (gd : Bool) (bs : List Bool) : Sm → Bool
 | .m B => bs[B]?.getD false
 | _ => gd
def okA (gd : Bool) (bs : List Bool) (r : List Sm) : Bool := r.all (okS gd bs)
theorem okA_iff {gd : Bool} {bs : List Bool} {r : List Sm} : okA gd bs r = true ↔ okR gd bs r := by
 unfold okA okR
 rw [List.all_eq_true]
 constructor
 ·intro h
  refine ⟨fun B hB => ?_, ?_⟩
  ·have := h _ hB
   simp only [okS] at this
   unfold on
   cases hb : bs[B]? with
   | none => rw [hb] at this; cases this
   | some b => rw [hb] at this; simp at this; rw [this]
  ·cases gd with
   | true => exact .inl rfl
   | false =>
    refine .inr fun x hx => ?_
    have := h x hx
    cases x <;> simp_all [okS, Sm.isM]
 ·rintro ⟨h1, h2⟩ x hx
  cases x with
  | m B => have := h1 B hx; unfold on at this; simp [okS, this]
  | t n =>
   rcases h2 with h2 | h2
   ·simp [okS, h2]
   ·have := h2 _ hx; cases this
  | e =>
   rcases h2 with h2 | h2
   ·simp [okS, h2]
   ·have := h2 _ hx; cases this
abbrev MdS (S : Sp) (gd : Bool) (bs : List Bool) : Prop := bs.length = S.ns.length ∧ ∀ A, on bs A → Der S.g gd A
abbrev MdC (S : Sp) (gd : Bool) (j : Nat) (bs : List Bool) : Prop := ∀ A r, S.g[j]? = some (A, r) → okR gd bs r → on bs A
abbrev falses (bs : List Bool) : Nat := bs.count false
abbrev MdP (S : Sp) (gd : Bool) := Stp (MdS S gd) (MdC S gd) falses
theorem MdS.set {S : Sp} {gd : Bool} {bs : List Bool} (h : MdS S gd bs) {p : Pd} (hp : p ∈ S.ps) (hl : p.l.toNat < S.ns.length) (ho : okA gd bs (row p.r) = true) : MdS S gd (bs.set p.l.toNat true) := by
 refine ⟨by rw [List.length_set]; exact h.1, fun A hA => ?_⟩
 rcases (on_set (by rw [h.1]; exact hl)).1 hA with rfl | hA
 ·obtain ⟨h1, h2⟩ := okA_iff.1 ho
  exact .mk _ _ (g_mem hp) (fun B hB => h.2 B (h1 B hB)) h2
 ·exact h.2 A hA
theorem MdC.on {S : Sp} {gd : Bool} {bs : List Bool} {i : Nat} {p : Pd} (hi : S.ps[i]? = some p) (h : Gm.on bs p.l.toNat) : MdC S gd i bs := fun A r hr _ => by
 rw [g_at hi] at hr; cases hr; exact h
theorem MdC.off {S : Sp} {gd : Bool} {bs : List Bool} {i : Nat} {p : Pd} (hi : S.ps[i]? = some p) (h : okA gd bs (row p.r) = false) : MdC S gd i bs := fun A r hr ho => by
 rw [g_at hi] at hr; cases hr
 have := okA_iff.2 ho
 rw [h] at this; cases this
theorem MdP.isD {S : Sp} {gd : Bool} {bs : List Bool} (h : MdS S gd bs) (hc : ∀ j, j < S.ps.length → MdC S gd j bs) : IsD S.g gd S.ns.length bs :=
 ⟨h.1, fun A => ⟨h.2 A, fun hd => Der.of_closed (fun A r hm ho => by
  obtain ⟨j, p, hj, hp, h1, h2⟩ := g_idx hm
  exact hc j hj A r (by rw [g_at hp, h1, h2]) ho) hd⟩⟩
theorem MdS.start (S : Sp) (gd : Bool) : MdS S gd (List.replicate S.ns.length false) := by
 refine ⟨List.length_replicate, fun A hA => ?_⟩
 unfold on at hA
 rw [List.getElem?_replicate] at hA
 split at hA
 ·simp at hA
 ·cases hA
theorem md_cases {bs : List Bool} {n : Nat} {x : Sy} (hl : bs.length = n) (hx : x.1 = 3 → 0 ≤ x.2 ∧ x.2 < n) : (x.1 = 3 ∧ bs[x.2.toNat]? = some true) ∨ (x.1 = 3 ∧ bs[x.2.toNat]? = some false) ∨ x.1 ≠ 3 := by
 by_cases h : x.1 = 3
 ·have := hx h
  obtain ⟨b, hb⟩ : ∃ b, bs[x.2.toNat]? = some b := ⟨_, List.getElem?_eq_getElem (by omega)⟩
  cases b
  ·exact .inr (.inl ⟨h, hb⟩)
  ·exact .inl ⟨h, hb⟩
 ·exact .inr (.inr h)
theorem okS_m {gd : Bool} {bs : List Bool} {x : Sy} {b : Bool} (h : x.1 = 3) (hb : bs[x.2.toNat]? = some b) : okS gd bs (sm x) = b := by
 rw [sm_name h]; simp [okS, hb]
theorem okS_o {gd : Bool} {bs : List Bool} {x : Sy} (h : x.1 ≠ 3) : okS gd bs (sm x) = gd := by
 unfold sm
 rw [if_neg h]
 split <;> rfl
theorem okA_step {gd : Bool} {bs : List Bool} {r : List Sy} {k : Nat} {x : Sy} (h : r[k]? = some x) : okA gd bs ((row r).drop k) = (okS gd bs (sm x) && okA gd bs ((row r).drop (k + 1))) := by
 rw [row_at h]; rfl
def fF : List Bool → Nat → Int
 | [], _ => -1
 | b :: l, i => if b = true then fF l (i + 1) else i
theorem fF_step {bs : List Bool} {i : Nat} {b : Bool} (h : bs[i]? = some b) : fF (bs.drop i) i = if b = true then fF (bs.drop (i + 1)) (i + 1) else i := by rw [drop_of h]; rfl
theorem fF_neg : ∀ {bs : List Bool} {i : Nat}, fF bs i < 0 ↔ ∀ b ∈ bs, b = true
 | [], _ => by simp [fF]
 | b :: l, i => by
  have ih := fF_neg (bs := l) (i := i + 1)
  rw [fF]
  cases b
  ·simp
  ·simpa using ih
theorem MdS.rep (S : Sp) (gd : Bool) : List.replicate (S.ns.length * 1) (Value.bool false) = bls (List.replicate S.ns.length false) := by rw [Nat.mul_one, bls_rep]
theorem dec_not {z : Int} {b : Bool} (h : 0 ≤ z ↔ b = false) : decide (z ≥ 0) = !b := by
 cases b
 ·exact decide_eq_true (h.2 rfl)
 ·exact decide_eq_false fun h1 => by have := h.1 h1; cases this
theorem bool_cases {bs : List Bool} {j : Nat} (h : j < bs.length) : bs[j]? = some true ∨ bs[j]? = some false := by
 rw [List.getElem?_eq_getElem h]
 cases bs[j] <;> simp
end Go.Proofs.YtkkpghlcmcaoiaaDoor
namespace Go.Proofs.YtkkpghlcmcaoiaaDoor
open Go.Vc Go.Gm
section
variable {X : Type} {Snd : X → Prop} {Cl : Nat → X → Prop} {mu : X → Nat} {i : Nat} {x0 x y : X} {gr : Bool}
theorem Stp.skipI (h : Stp Snd Cl mu i x0 x gr) (hc : gr = false → Cl i x) : Stp Snd Cl mu (i + 1) x0 x gr :=
 ⟨h.snd, fun hg => ⟨(h.cl hg).1, fun j hj => by
  rcases Nat.lt_succ_iff_lt_or_eq.1 hj with h1 | h1
  ·exact (h.cl hg).2 j h1
  ·rw [h1]; exact hc hg⟩, h.lt⟩
theorem Stp.mark (h : Stp Snd Cl mu i x0 x gr) (hs : Snd y) (hm : mu y < mu x) : Stp Snd Cl mu i x0 y true :=
 ⟨hs, fun h => by (cases h), fun _ => Nat.lt_of_lt_of_le hm h.le⟩
theorem Stp.mark' (h : Stp Snd Cl mu i x0 x true) (hs : Snd y) (hm : mu y ≤ mu x) : Stp Snd Cl mu i x0 y true :=
 ⟨hs, fun h => by (cases h), fun _ => Nat.lt_of_le_of_lt hm (h.lt rfl)⟩
end
theorem set_on {bs : List Bool} {j : Nat} (h : bs[j]? = some true) : bs.set j true = bs := by
 refine List.ext_getElem? fun k => ?_
 rw [List.getElem?_set]
 split
 ·rename_i h1; subst h1
  obtain ⟨hj, he⟩ := List.getElem?_eq_some_iff.1 h
  rw [if_pos hj, h]
 ·rfl
theorem falses_set {bs : List Bool} {j : Nat} (h : j < bs.length) : falses (bs.set j true) ≤ falses bs := by
 rcases bool_cases h with h1 | h1
 ·rw [set_on h1]; exact Nat.le_refl _
 ·exact Nat.le_of_lt (count_on h1)
abbrev RcX := List Bool × List Bool
def rcOn (x : RcX) : Sm → Prop
 | .m B => on x.1 B
 | .t n => on x.2 n
 | .e => True
structure RcS (S : Sp) (x : RcX) : Prop where
 l1 : x.1.length = S.ns.length
 l2 : x.2.length = S.lx.length
 st : on x.1 S.st.toNat
 snd : ∀ y, y ≠ .e → rcOn x y → Rch S.g S.st.toNat y
def RcC (S : Sp) (j : Nat) (x : RcX) : Prop := ∀ p, S.ps[j]? = some p → on x.1 p.l.toNat → ∀ y ∈ row p.r, rcOn x y
def rcMu (x : RcX) : Nat := falses x.1 + falses x.2
abbrev RcP (S : Sp) := Stp (RcS S) (RcC S) rcMu
structure RcI (S : Sp) (i : Nat) (p : Pd) (k : Nat) (x0 x : RcX) (gr : Bool) : Prop where
 h : RcP S i x0 x gr
 l : on x.1 p.l.toNat
 d : gr = false → ∀ y ∈ (row p.r).take k, rcOn x y
theorem RcS.m1 {S : Sp} {x : RcX} (h : RcS S x) {p : Pd} (hp : p ∈ S.ps) (hl : on x.1 p.l.toNat) {y : Sy} (hy : y ∈ p.r) (h3 : sm y = .m y.2.toNat) (hb : y.2.toNat < S.ns.length) : RcS S (x.1.set y.2.toNat true, x.2) := by
 have hlen := h.l1
 refine ⟨by simpa using h.l1, h.l2, (on_set (by omega)).2 (.inr h.st), fun z hz ho => ?_⟩
 cases z with
 | e => exact absurd rfl hz
 | t n => exact h.snd (.t n) hz ho
 | m B =>
  rcases (on_set (by omega)).1 ho with hB | ho
  ·subst hB
   exact .step (h.snd (.m _) (by simp) hl) (g_mem hp) (List.mem_map.2 ⟨y, hy, h3⟩)
  ·exact h.snd (.m B) hz ho
theorem RcS.m2 {S : Sp} {x : RcX} (h : RcS S x) {p : Pd} (hp : p ∈ S.ps) (hl : on x.1 p.l.toNat) {y : Sy} (hy : y ∈ p.r) (h3 : sm y = .t y.2.toNat) (hb : y.2.toNat < S.lx.length) : RcS S (x.1, x.2.set y.2.toNat true) := by
 have hlen := h.l2
 refine ⟨h.l1, by simpa using h.l2, h.st, fun z hz ho => ?_⟩
 cases z with
 | e => exact absurd rfl hz
 | m n => exact h.snd (.m n) hz ho
 | t B =>
  rcases (on_set (by omega)).1 ho with hB | ho
  ·subst hB
   exact .step (h.snd (.m _) (by simp) hl) (g_mem hp) (List.mem_map.2 ⟨y, hy, h3⟩)
  ·exact h.snd (.t B) hz ho
theorem take_row {r : List Sy} {k : Nat} {y : Sy} (h : r[k]? = some y) {z : Sm} (hz : z ∈ (row r).take (k + 1)) : z ∈ (row r).take k ∨ z = sm y := by
 have h' : (row r)[k]? = some (sm y) := by rw [row, List.getElem?_map, h]; rfl
 rw [List.take_add_one, h'] at hz
 simpa using hz
theorem RcI.start {S : Sp} {i : Nat} {p : Pd} {x0 x : RcX} {gr : Bool} (h : RcP S i x0 x gr) (hl : on x.1 p.l.toNat) : RcI S i p 0 x0 x gr := ⟨h, hl, fun _ y hy => by simp at hy⟩
theorem RcI.pass {S : Sp} {i k : Nat} {p : Pd} {x0 x : RcX} {gr : Bool} (h : RcI S i p k x0 x gr) {y : Sy} (hk : p.r[k]? = some y) (ho : rcOn x (sm y)) : RcI S i p (k + 1) x0 x gr :=
 ⟨h.h, h.l, fun hg z hz => (take_row hk hz).elim (h.d hg z) fun e => e ▸ ho⟩
theorem RcI.mark {S : Sp} {i k : Nat} {p : Pd} {x0 x y : RcX} {gr : Bool} (h : RcI S i p k x0 x gr) (hs : RcS S y) (hl : on y.1 p.l.toNat) (hm : rcMu y < rcMu x) : RcI S i p (k + 1) x0 y true := ⟨h.h.mark hs hm, hl, fun h => by cases h⟩
theorem RcI.mark' {S : Sp} {i k : Nat} {p : Pd} {x0 x y : RcX} (h : RcI S i p k x0 x true) (hs : RcS S y) (hl : on y.1 p.l.toNat) (hm : rcMu y ≤ rcMu x) : RcI S i p (k + 1) x0 y true := ⟨h.h.mark' hs hm, hl, fun h => by cases h⟩
theorem RcI.done {S : Sp} {i : Nat} {p : Pd} {x0 x : RcX} {gr : Bool} (h : RcI S i p p.r.length x0 x gr) (hi : S.ps[i]? = some p) : RcP S (i + 1) x0 x gr :=
 h.h.skipI fun hg q hq _ y hy => by
  rw [hi] at hq; cases hq
  exact h.d hg y (by rw [List.take_of_length_le (by rw [row_len]; exact Nat.le_refl _)]; exact hy)
theorem RcP.pass {S : Sp} {i : Nat} {p : Pd} {x0 x : RcX} {gr : Bool} (h : RcP S i x0 x gr) (hi : S.ps[i]? = some p) (ho : x.1[p.l.toNat]? = some false) : RcP S (i + 1) x0 x gr :=
 h.skip fun q hq hl => by rw [hi] at hq; cases hq; exact absurd hl (off_of ho)
structure IsRc (S : Sp) (x : RcX) : Prop where
 l1 : x.1.length = S.ns.length
 l2 : x.2.length = S.lx.length
 n : ∀ B, on x.1 B ↔ Rch S.g S.st.toNat (.m B)
 r : ∀ t, on x.2 t ↔ Rch S.g S.st.toNat (.t t)
theorem RcP.isRc {S : Sp} {x : RcX} (h : RcS S x) (hc : ∀ j, j < S.ps.length → RcC S j x) : IsRc S x := by
 have key : ∀ y, Rch S.g S.st.toNat y → rcOn x y := fun y hy => by
  induction hy with
  | start => exact h.st
  | @step A r z _ hm hz ih =>
   obtain ⟨j, p, hj, hp, h1, h2⟩ := g_idx hm
   exact hc j hj p hp (by rw [h1]; exact ih) z (by rw [h2]; exact hz)
 exact ⟨h.l1, h.l2, fun B => ⟨h.snd (.m B) (by simp), key (.m B)⟩, fun t => ⟨h.snd (.t t) (by simp), key (.t t)⟩⟩
theorem IsRc.same {S : Sp} {x y : RcX} (h : IsRc S x) (h' : IsRc S y) : x = y := by
 have e1 := bools_ext (h.l1.trans h'.l1.symm) fun A => (h.n A).trans (h'.n A).symm
 have e2 := bools_ext (h.l2.trans h'.l2.symm) fun A => (h.r A).trans (h'.r A).symm
 exact Prod.ext e1 e2
theorem RcS.start {S : Sp} (h : 0 ≤ S.st ∧ S.st < S.ns.length) : RcS S ((List.replicate S.ns.length false).set S.st.toNat true, List.replicate S.lx.length false) := by
 have hoff : ∀ (n A : Nat), ¬on (List.replicate n false) A := fun n A hA => by
  unfold on at hA
  rw [List.getElem?_replicate] at hA
  split at hA
  ·simp at hA
  ·cases hA
 refine ⟨by simp, by simp, (on_set (by simp; omega)).2 (.inl rfl), fun y hy ho => ?_⟩
 cases y with
 | e => exact absurd rfl hy
 | t n => exact absurd ho (hoff _ _)
 | m B =>
  rcases (on_set (by simp; omega)).1 ho with hB | hB
  ·subst hB; exact .start
  ·exact absurd hB (hoff _ _)
theorem mu1 {bs cs : List Bool} {j : Nat} (h : bs[j]? = some false) : rcMu (bs.set j true, cs) < rcMu (bs, cs) := by have := count_on h; simp only [rcMu, falses]; omega
theorem mu2 {bs cs : List Bool} {j : Nat} (h : cs[j]? = some false) : rcMu (bs, cs.set j true) < rcMu (bs, cs) := by have := count_on h; simp only [rcMu, falses]; omega
theorem mu1' {bs cs : List Bool} {j : Nat} (h : j < bs.length) : rcMu (bs.set j true, cs) ≤ rcMu (bs, cs) := by have := falses_set h; simp only [rcMu]; omega
theorem mu2' {bs cs : List Bool} {j : Nat} (h : j < cs.length) : rcMu (bs, cs.set j true) ≤ rcMu (bs, cs) := by have := falses_set h; simp only [rcMu]; omega
theorem gr_cases {bs : List Bool} {j : Nat} (gr : Bool) (h : j < bs.length) : gr = true ∨ (gr = false ∧ bs[j]? = some true) ∨ (gr = false ∧ bs[j]? = some false) := by
 cases gr
 ·exact .inr ((bool_cases h).imp (fun h => ⟨rfl, h⟩) fun h => ⟨rfl, h⟩)
 ·exact .inl rfl
def fR : List Bool → List Lx → Nat → Int × Int
 | b :: l, r :: m, i => if b = false ∧ r.tr = false then (72, i) else fR l m (i + 1)
 | _, _, _ => (0, 0)
theorem fR_step {bs : List Bool} {lx : List Lx} {i : Nat} {b : Bool} {r : Lx} (h : bs[i]? = some b) (hr : lx[i]? = some r) : fR (bs.drop i) (lx.drop i) i = if b = false ∧ r.tr = false then (72, (i : Int)) else fR (bs.drop (i + 1)) (lx.drop (i + 1)) (i + 1) := by rw [drop_of h, drop_of hr]; rfl
theorem fR_ok : ∀ {bs : List Bool} {lx : List Lx} {i : Nat}, bs.length = lx.length → ((fR bs lx i).1 = 0 ↔ ∀ t r, lx[t]? = some r → r.tr = false → on bs t)
 | [], [], _, _ => by simp [fR]
 | b :: l, r :: m, i, h => by
  have ih := fR_ok (bs := l) (lx := m) (i := i + 1) (by simpa using h)
  rw [fR]
  split
  ·rename_i h1
   constructor
   ·intro h; cases h
   ·intro h2
    have := h2 0 r rfl h1.2
    unfold on at this
    rw [h1.1] at this
    cases this
  ·rename_i h1
   rw [ih]
   constructor
   ·intro h2 t q hq ht
    cases t with
    | zero =>
     simp only [List.getElem?_cons_zero, Option.some.injEq] at hq
     subst hq
     cases b
     ·exact absurd ⟨rfl, ht⟩ h1
     ·rfl
    | succ t => exact h2 t q (by simpa using hq) ht
   ·intro h2 t q hq ht
    exact h2 (t + 1) q (by simpa using hq) ht
 | [], _ :: _, _, h => by simp at h
 | _ :: _, [], _, h => by simp at h
def rcE (S : Sp) (x : RcX) : Int × Int := if 0 ≤ fF x.1 0 then (72, fF x.1 0) else fR x.2 S.lx 0
end Go.Proofs.YtkkpghlcmcaoiaaDoor
namespace Go.Proofs.YtkkpghlcmcaoiaaDoor
open Go.Vc Go.Gm
def ivs (vs : List Nat) : List Value := vs.map fun (v : Nat) => I6 (v : Int)
theorem ivs_at {vs : List Nat} {j : Nat} {v : Nat} (h : vs[j]? = some v) : (ivs vs)[0 + j * 1]? = some (I6 (v : Int)) := by rw [Nat.zero_add, Nat.mul_one, ivs, List.getElem?_map, h]; rfl
theorem ivs_set (vs : List Nat) (j v : Nat) : (ivs vs).set (0 + j * 1) (I6 (v : Int)) = ivs (vs.set j v) := by rw [Nat.zero_add, Nat.mul_one, ivs, ivs, List.map_set]
theorem ivs_len (vs : List Nat) : (ivs vs).length = vs.length := by simp [ivs]
theorem ivs_rep (n v : Nat) : List.replicate n (I6 (v : Int)) = ivs (List.replicate n v) := by simp [ivs]
theorem fill_set {α : Type} {i n : Nat} (a b : α) (h : i < n) : (List.replicate i a ++ List.replicate (n - i) b).set i a = List.replicate (i + 1) a ++ List.replicate (n - (i + 1)) b := by
 refine List.ext_getElem? fun k => ?_
 rw [List.getElem?_set]
 simp only [List.getElem?_append, List.getElem?_replicate, List.length_append, List.length_replicate]
 by_cases h1 : i = k
 ·subst h1
  rw [if_pos rfl, if_pos (by omega), if_pos (by omega), if_pos (by omega)]
 ·rw [if_neg h1]
  repeat' split
  all_goals first | rfl | omega
def vf (top : Nat) (vs : List Nat) (A : Nat) : Nat := vs[A]?.getD top
theorem vf_at {top : Nat} {vs : List Nat} {A v : Nat} (h : vs[A]? = some v) : vf top vs A = v := by simp [vf, h]
theorem vf_set {top : Nat} {vs : List Nat} {A v : Nat} (h : A < vs.length) (B : Nat) : vf top (vs.set A v) B = if B = A then v else vf top vs B := by
 unfold vf
 rw [List.getElem?_set]
 by_cases h1 : A = B
 ·subst h1; rw [if_pos rfl, if_pos h, if_pos rfl]; rfl
 ·rw [if_neg h1, if_neg (Ne.symm h1)]
theorem sum_set_lt : ∀ {vs : List Nat} {A v w : Nat}, vs[A]? = some v → w < v → (vs.set A w).sum < vs.sum
 | [], A, v, w, h, _ => by simp at h
 | a :: vs, 0, v, w, h, hw => by
  simp only [List.getElem?_cons_zero, Option.some.injEq] at h
  subst h
  simp only [List.set_cons_zero, List.sum_cons]; omega
 | a :: vs, A + 1, v, w, h, hw => by
  have := sum_set_lt (vs := vs) (A := A) (v := v) (w := w) (by simpa using h) hw
  simp only [List.set_cons_succ, List.sum_cons]; omega
structure SmS (S : Sp) (add tc top : Nat) (vs : List Nat) : Prop where
 len : vs.length = S.ns.length
 le : ∀ A, vf top vs A ≤ top
 snd : ∀ A, vf top vs A < top → CN S.g add tc A (vf top vs A)
def SmC (S : Sp) (add tc top : Nat) (j : Nat) (vs : List Nat) : Prop := ∀ p, S.ps[j]? = some p → vf top vs p.l.toNat ≤ add + sumV tc (vf top vs) (row p.r)
abbrev SmP (S : Sp) (add tc top : Nat) := Stp (SmS S add tc top) (SmC S add tc top) List.sum
theorem CR_sum {G : Gr} {add tc top : Nat} {V : Nat → Nat} (h : ∀ A, V A < top → CN G add tc A (V A)) : ∀ {r : List Sm}, sumV tc V r < top → CR G add tc r (sumV tc V r)
 | [], _ => .nil
 | .t n :: r, hl => by
  simp only [sumV, val] at hl ⊢
  exact .term rfl (CR_sum h (by omega))
 | .e :: r, hl => by
  simp only [sumV, val] at hl ⊢
  exact .term rfl (CR_sum h (by omega))
 | .m A :: r, hl => by
  simp only [sumV, val] at hl ⊢
  obtain ⟨q, i, hm, hc, he⟩ := h A (by omega)
  have := CR_sum h (r := r) (by omega)
  rw [he]
  exact .name hm hc this
theorem SmS.set {S : Sp} {add tc top : Nat} {vs : List Nat} (h : SmS S add tc top vs) {p : Pd} (hp : p ∈ S.ps) (hl : p.l.toNat < S.ns.length) {m v : Nat} (hm : m = min top (add + sumV tc (vf top vs) (row p.r))) (hv : vs[p.l.toNat]? = some v) (hlt : m < v) : SmS S add tc top (vs.set p.l.toNat m) := by
 have h1 := h.le p.l.toNat
 rw [vf_at hv] at h1
 have hlen := h.len
 refine ⟨by rw [List.length_set]; exact h.len, fun A => ?_, fun A hA => ?_⟩
 ·rw [vf_set (by omega)]
  split
  ·omega
  ·exact h.le A
 ·rw [vf_set (by omega)] at hA ⊢
  split
  ·rename_i h2
   subst h2
   have : m = add + sumV tc (vf top vs) (row p.r) := by omega
   exact ⟨_, _, g_mem hp, CR_sum h.snd (by omega), this⟩
  ·rename_i h2
   rw [if_neg h2] at hA
   exact h.snd A hA
theorem SmC.of {S : Sp} {add tc top : Nat} {vs : List Nat} {i : Nat} {p : Pd} (hi : S.ps[i]? = some p) {m v : Nat} (hm : m = min top (add + sumV tc (vf top vs) (row p.r))) (hv : vs[p.l.toNat]? = some v) (h : ¬m < v) : SmC S add tc top i vs := fun q hq => by
 rw [hi] at hq; cases hq
 rw [vf_at hv]; omega
theorem SmP.isC {S : Sp} {add tc top : Nat} {vs : List Nat} (h : SmS S add tc top vs) (hc : ∀ j, j < S.ps.length → SmC S add tc top j vs) : IsC S.g add tc top (vf top vs) :=
 ⟨h.le, h.snd, fun A r hm => by
  obtain ⟨j, p, hj, hp, h1, h2⟩ := g_idx hm
  have := hc j hj p hp
  rw [h1, h2] at this; exact this⟩
theorem SmS.start (S : Sp) (add tc top : Nat) : SmS S add tc top (List.replicate S.ns.length top) := by
 have : ∀ A, vf top (List.replicate S.ns.length top) A = top := fun A => by
  unfold vf
  rw [List.getElem?_replicate]
  split <;> rfl
 exact ⟨by simp, fun A => by rw [this]; exact Nat.le_refl _, fun A hA => by rw [this] at hA; omega⟩
theorem sumV_m {tc top : Nat} {vs : List Nat} {r : List Sy} {k : Nat} {x : Sy} (h : r[k]? = some x) {v : Nat} (h3 : x.1 = 3) (hv : vs[x.2.toNat]? = some v) : sumV tc (vf top vs) ((row r).drop k) = v + sumV tc (vf top vs) ((row r).drop (k + 1)) := by
 rw [row_at h, sumV, sm_name h3, val, vf_at hv]
theorem sumV_o {tc top : Nat} {vs : List Nat} {r : List Sy} {k : Nat} {x : Sy} (h : r[k]? = some x) (h3 : x.1 ≠ 3) : sumV tc (vf top vs) ((row r).drop k) = tc + sumV tc (vf top vs) ((row r).drop (k + 1)) := by
 rw [row_at h, sumV]
 congr 1
 unfold sm
 rw [if_neg h3]
 split <;> rfl
theorem min_case (m v top : Nat) {v' t : Int} (hv : v' = (v : Int)) (ht : t = (top : Int)) : ∃ m2 : Nat, ((m2 = m + v ∧ m + v ≤ top) ∨ (m2 = top ∧ top < m + v)) ∧ Value.int .i64 (if t < (m : Int) + v' then t else (m : Int) + v') = I6 (m2 : Int) := by
 subst hv ht
 rcases Nat.lt_or_ge top (m + v) with h | h
 ·exact ⟨top, .inr ⟨rfl, h⟩, by rw [if_pos (by omega)]⟩
 ·exact ⟨m + v, .inl ⟨rfl, h⟩, by rw [if_neg (by omega)]; rfl⟩
def Cap (top m r s : Nat) : Prop := m ≤ top ∧ ((m = top ∧ top ≤ s) ∨ m + r = s)
theorem Cap.start {top a r : Nat} (h : a ≤ top) : Cap top a r (a + r) := ⟨h, .inr rfl⟩
theorem Cap.step {top m r s v m2 q : Nat} (h : Cap top m q s) (hq : q = v + r) (h2 : (m2 = m + v ∧ m + v ≤ top) ∨ (m2 = top ∧ top < m + v)) : Cap top m2 r s := by
 unfold Cap at *
 omega
theorem Cap.done {top m s : Nat} (h : Cap top m 0 s) : m = min top s := by
 unfold Cap at h
 omega
end Go.Proofs.YtkkpghlcmcaoiaaDoor
