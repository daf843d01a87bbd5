/- The parts of a rope, as ghosts over the world. -/
import Derived.Test.YtkdbfjomjlhfbaaProg
import Derived.Test.YtkdbfjomjlhfbaaVg
namespace Go.Proofs.Ytkdbfjomjlhfbaa
open Go.Vc

inductive Nd
  | leaf (b : Nat) (v : Value) (xs : List Int)
  | two (b : Nat) (l r : Nd)

namespace Nd
def b : Nd → Nat
  | .leaf b _ _ => b
  | .two b _ _ => b
def bs : Nd → List Int
  | .leaf _ _ xs => xs
  | .two _ l r => l.bs ++ r.bs
def n : Nd → Nat
  | .leaf _ _ xs => xs.length
  | .two _ l r => l.n + r.n
def rw : Nd → Nat
  | .leaf _ _ xs => rws xs
  | .two _ l r => l.rw + r.rw
def hg : Nd → Nat
  | .leaf _ _ _ => 0
  | .two _ l r => 1 + max l.hg r.hg
def lp : Nd → Value
  | .leaf _ _ _ => .pointer none
  | .two _ l _ => Pv l.b
def rp : Nd → Value
  | .leaf _ _ _ => .pointer none
  | .two _ _ r => Pv r.b
def pv : Nd → Value
  | .leaf _ v _ => v
  | .two _ _ _ => .slice none 0 0
def cells (t : Nd) : Array Value := #[t.lp, t.rp, t.pv, I6 t.n, I6 t.rw, I6 t.hg]
/-- the blocks that it reads -/
def Foot : Nd → Nat → Prop
  | .leaf b v _, x => x = b ∨ x ∈ ob v
  | .two b l r, x => x = b ∨ l.Foot x ∨ r.Foot x
end Nd
/-- blocks that no part of a rope reads: a set that goes along unseen -/
structure Zt where
  p : Nat → Prop
set_option linter.unusedSectionVars false
variable [Inhabited Zt]
def ZZ (x : Nat) : Prop := (default : Zt).p x
def Zb (w : World) : Prop := ∀ x, ZZ x → x < w.heap.size
theorem Zb.ext {w w' : World} {M : List Nat} (h : Zb w) (hE : Ext M w w') : Zb w' := fun x hx => Nat.lt_of_lt_of_le (h x hx) hE.size
theorem Zb.new {w : World} (h : Zb w) {x : Nat} (hx : w.heap.size ≤ x) : ¬ZZ x := fun hz => by have := h x hz; omega
namespace Nd
/-- the part is laid so in the world -/
def Ok (w : World) : Nd → Prop
  | .leaf b v xs => Blk w b 89 (Nd.leaf b v xs).cells ∧ RdV w 1 v xs.length (bv xs) ∧ 0 < xs.length ∧ BR xs ∧ Zb w ∧ ¬ZZ b ∧ ∀ x ∈ ob v, ¬ZZ x
  | .two b l r => Blk w b 89 (Nd.two b l r).cells ∧ l.Ok w ∧ r.Ok w ∧ ¬ZZ b

theorem len : ∀ (t : Nd), t.bs.length = t.n
  | .leaf _ _ _ => rfl
  | .two _ l r => by simp [bs, n, len l, len r]
theorem rweq : ∀ (t : Nd), t.rw = rws t.bs
  | .leaf _ _ _ => rfl
  | .two _ l r => by simp [bs, rw, rws_app, rweq l, rweq r]

theorem Ok.blk {w : World} : ∀ {t : Nd}, t.Ok w → Blk w t.b 89 #[t.lp, t.rp, t.pv, I6 t.n, I6 t.rw, I6 t.hg]
  | .leaf _ _ _, h => h.1
  | .two _ _ _, h => h.1
theorem Ok.ext {w w' : World} {M : List Nat} : ∀ {t : Nd}, t.Ok w → Ext M w w' → (∀ x ∈ M, ¬t.Foot x) → t.Ok w'
  | .leaf b v xs, ⟨h1, h2, h3, h4, h5, h6⟩, hE, hM => ⟨h1.ext hE fun hm => hM _ hm (.inl rfl), h2.ext hE fun x hx hm => hM _ hm (.inr hx), h3, h4, h5.ext hE, h6⟩
  | .two b l r, ⟨h1, h2, h3, h4⟩, hE, hM => ⟨h1.ext hE fun hm => hM _ hm (.inl rfl), h2.ext hE fun x hx hf => hM x hx (.inr (.inl hf)), h3.ext hE fun x hx hf => hM x hx (.inr (.inr hf)), h4⟩
theorem Ok.ext0 {w w' : World} {t : Nd} (h : t.Ok w) (hE : Ext [] w w') : t.Ok w' := h.ext hE fun x hx => by cases hx
theorem Ok.pos {w : World} : ∀ {t : Nd}, t.Ok w → 0 < t.n
  | .leaf _ _ _, h => h.2.2.1
  | .two _ l r, h => by have := h.2.1.pos; simp only [n]; omega
theorem Ok.br {w : World} : ∀ {t : Nd}, t.Ok w → BR t.bs
  | .leaf _ _ _, h => h.2.2.2.1
  | .two _ l r, h => h.2.1.br.app h.2.2.1.br
theorem Ok.zb {w : World} : ∀ {t : Nd}, t.Ok w → Zb w
  | .leaf _ _ _, h => h.2.2.2.2.1
  | .two _ l r, h => h.2.1.zb
theorem Ok.nz {w : World} : ∀ {t : Nd}, t.Ok w → ∀ x, t.Foot x → ¬ZZ x
  | .leaf b v xs, h, x, hx => by
    rcases hx with rfl | hx
    · exact h.2.2.2.2.2.1
    · exact h.2.2.2.2.2.2 x hx
  | .two b l r, h, x, hx => by
    rcases hx with rfl | hx | hx
    · exact h.2.2.2
    · exact h.2.1.nz x hx
    · exact h.2.2.1.nz x hx
theorem Ok.high {w : World} : ∀ {t : Nd}, t.Ok w → t.hg < t.n
  | .leaf _ _ _, h => h.2.2.1
  | .two _ l r, h => by
    have h1 := h.2.1.high
    have h2 := h.2.2.1.high
    simp only [n, hg]
    omega
theorem rw_le : ∀ (t : Nd), t.rw ≤ t.n := fun t => by rw [rweq, ← len]; exact rws_le _
theorem Ok.foot {w : World} : ∀ {t : Nd}, t.Ok w → ∀ x, t.Foot x → x < w.heap.size
  | .leaf b v xs, ⟨h1, h2, _⟩, x, hx => by
    rcases hx with rfl | hx
    · exact h1.lt
    · rcases h2 with ⟨a, c, rfl, h3, h4⟩ | ⟨g, off, cap, rfl, h3, h4, h5⟩
      · rename_i hpos
        have : xs.length = 0 := h3
        omega
      · have hxg : x = g := by simpa [ob] using hx
        subst hxg
        rename_i hpos
        have hp : 0 < xs.length := hpos.1
        obtain ⟨u, hu⟩ : ∃ u, (bv xs)[0]? = some u := ⟨_, List.getElem?_eq_getElem (by simpa using hp)⟩
        have hc := h5 0 u hu
        rcases Nat.lt_or_ge x w.heap.size with h6 | h6
        · exact h6
        · rw [World.cell?, Array.getElem?_eq_none h6] at hc; cases hc
  | .two b l r, ⟨h1, h2, h3, _⟩, x, hx => by
    rcases hx with rfl | hx | hx
    · exact h1.lt
    · exact h2.foot x hx
    · exact h3.foot x hx
/-- what is no leaf -/
theorem Ok.two {w : World} {t : Nd} (h : t.Ok w) (hh : t.hg ≠ 0) : ∃ l r : Nd, Blk w t.b 89 #[Pv l.b, Pv r.b, .slice none 0 0, I6 t.n, I6 t.rw, I6 t.hg] ∧ l.Ok w ∧ r.Ok w ∧
    t.n = l.n + r.n ∧ t.rw = l.rw + r.rw ∧ t.bs = l.bs ++ r.bs ∧ t.hg = 1 + max l.hg r.hg := by
  cases t with
  | leaf b v xs => exact absurd rfl hh
  | two b l r => exact ⟨l, r, h.1, h.2.1, h.2.2.1, rfl, rfl, rfl, rfl⟩
theorem Ok.one {w : World} {t : Nd} (h : t.Ok w) (hh : t.hg = 0) : ∃ v, Blk w t.b 89 #[.pointer none, .pointer none, v, I6 t.n, I6 t.rw, I6 t.hg] ∧ RdV w 1 v t.n (bv t.bs) ∧ (∀ x, x ∈ ob v → t.Foot x) := by
  cases t with
  | leaf b v xs => exact ⟨v, h.1, h.2.1, fun x hx => .inr hx⟩
  | two b l r => simp only [hg] at hh; omega
end Nd

/-- a part that may be none: of no bytes -/
def op (o : Option Nd) : Value := .pointer (o.map fun t => ⟨t.b, 0, none⟩)
def obs : Option Nd → List Int
  | some t => t.bs
  | none => []
def okO (w : World) : Option Nd → Prop
  | some t => t.Ok w
  | none => Zb w
def footO : Option Nd → Nat → Prop
  | some t, x => t.Foot x
  | none, _ => False
theorem okO.ext0 {w w' : World} : ∀ {o : Option Nd}, okO w o → Ext [] w w' → okO w' o
  | some _, h, hE => Nd.Ok.ext0 h hE
  | none, h, hE => Zb.ext h hE
theorem okO.zb {w : World} : ∀ {o : Option Nd}, okO w o → Zb w
  | some _, h => Nd.Ok.zb h
  | none, h => h
theorem okO.nz {w : World} : ∀ {o : Option Nd}, okO w o → ∀ x, footO o x → ¬ZZ x
  | some _, h => Nd.Ok.nz h
  | none, _ => fun _ h => h.elim
theorem okO.ext {w w' : World} {M : List Nat} : ∀ {o : Option Nd}, okO w o → Ext M w w' → (∀ x ∈ M, ¬footO o x) → okO w' o
  | some _, h, hE, hM => Nd.Ok.ext h hE hM
  | none, h, hE, _ => Zb.ext h hE
theorem okO.foot {w : World} : ∀ {o : Option Nd}, okO w o → ∀ x, footO o x → x < w.heap.size
  | some _, h => Nd.Ok.foot h
  | none, _ => fun _ h => h.elim
theorem okO.br {w : World} : ∀ {o : Option Nd}, okO w o → BR (obs o)
  | some _, h => Nd.Ok.br h
  | none, _ => BR.nil
theorem okO.some_of {w : World} : ∀ {o : Option Nd}, okO w o → obs o ≠ [] → ∃ t, o = some t ∧ t.Ok w
  | some t, h, _ => ⟨t, rfl, h⟩
  | none, _, h => absurd rfl h
theorem okO.none_of {w : World} : ∀ {o : Option Nd}, okO w o → obs o = [] → o = none
  | some t, h, he => by
    have := Nd.Ok.pos h
    rw [← Nd.len] at this
    have he : t.bs = [] := he
    rw [he] at this
    simp at this
  | none, _, _ => rfl

/-- what hands back a part -/
def NdR (w : World) (xs : List Int) (e : Ending) (w' : World) : Prop := ∃ t : Nd, e = .returned (Pv t.b) ∧ t.Ok w' ∧ t.bs = xs ∧ Ext [] w w'
def NdO (w : World) (xs : List Int) (e : Ending) (w' : World) : Prop := ∃ o : Option Nd, e = .returned (op o) ∧ okO w' o ∧ obs o = xs ∧ Ext [] w w'
def NdN (w : World) (xs : List Int) (k : Nat) (e : Ending) (w' : World) : Prop := ∃ t : Nd, e = .returned (Pv t.b) ∧ t.Ok w' ∧ t.bs = xs ∧ t.n = k ∧ Ext [] w w'
theorem NdN.r {w w' : World} {xs : List Int} {k : Nat} {e : Ending} (h : NdN w xs k e w') : NdR w xs e w' := by
  obtain ⟨t, h1, h2, h3, h4, h5⟩ := h
  exact ⟨t, h1, h2, h3, h5⟩
theorem NdR.nn {w w' : World} {xs : List Int} {e : Ending} {k : Nat} (h : NdR w xs e w') (hk : xs.length = k) : NdN w xs k e w' := by
  obtain ⟨t, h1, h2, h3, h5⟩ := h
  exact ⟨t, h1, h2, h3, by rw [← Nd.len, h3, hk], h5⟩
theorem NdR.o {w w' : World} {xs : List Int} {e : Ending} (h : NdR w xs e w') : NdO w xs e w' := by
  obtain ⟨t, h1, h2, h3, h4⟩ := h
  exact ⟨some t, h1, h2, h3, h4⟩
theorem NdR.since {w0 w w' : World} {xs : List Int} {e : Ending} (h : NdR w xs e w') (hE : Ext [] w0 w) : NdR w0 xs e w' := by
  obtain ⟨t, h1, h2, h3, h4⟩ := h
  exact ⟨t, h1, h2, h3, hE.trans0 h4⟩
end Go.Proofs.Ytkdbfjomjlhfbaa
