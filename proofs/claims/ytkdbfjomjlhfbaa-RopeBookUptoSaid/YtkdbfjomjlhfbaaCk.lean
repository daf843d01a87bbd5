/- What goes through a rope's pieces, as a ghost over the world. -/
import Derived.Test.YtkdbfjomjlhfbaaR10
namespace Go.Proofs.Ytkdbfjomjlhfbaa
open Go.Vc
set_option linter.unusedSectionVars false
variable [Inhabited Zt]

/-- a piece with its place; and the row in which it is handed over -/
abbrev Cp := Int × List Int
abbrev Cv := Cp × Value
def ckE (x : Cv) : List Value := [I6 x.1.1, x.2]
def ckB (x : Cv) : List Nat := ob x.2
def ckOk (x : Cv) (w : World) : Prop := OwnV w 5 1 x.2 x.1.2.length (bv x.1.2)
def told (l : List Cp) : List Int := l.flatMap (·.2)
def CkNx (i : Nat) (G : List Int) (l : List Cp) (x : Cp) : Prop := x.1 = ((i + (told l).length : Nat) : Int) ∧ x.2 ≠ [] ∧ ∃ rest, told l ++ (x.2 ++ rest) = G
def CkFin (G : List Int) (l : List Cp) : Prop := told l = G
theorem ckOk_ext (x : Cv) (W W' : World) (M : List Nat) (h : ckOk x W) (hE : Ext M W W') (hM : ∀ b ∈ M, b ∉ ckB x) : ckOk x W' := OwnV.ext h hE fun b hb hm => hM b hm hb
theorem told_snoc (l : List Cp) (x : Cp) : told (l ++ [x]) = told l ++ x.2 := by simp [told]
theorem fresh_not {N b : Nat} {C C' : List Nat} (h : Fresh N C C') (h1 : b ∉ C) (h2 : b < N) : b ∉ C' := fun hm => by
  rcases h b hm with h3 | h3
  · exact h1 h3
  · omega

structure CI (J : List Cv → List Nat → World → Prop) (C : List Nat) (w0 : World) (F : Nat → Prop) (G : List Int) (wb : Nat) (pre : List Cv) (C1 : List Nat) (pv lv : Value) (ys zs : List Int) (st : List Nd) (w : World) : Prop where
  wy : Wy F w0.heap.size w wb pv lv ys st
  all : told (pre.map (·.1)) ++ (zs ++ rst st) = G
  j : J pre C1 w
  lie : Lie w C1
  fr : Fresh w0.heap.size C C1
  ext : Ext C w0 w
  wn : wb ∉ C1
  ln : ∀ x ∈ ob lv, x ∉ C1

section
variable {J Jx : List Cv → List Nat → World → Prop} {C : List Nat} {w0 : World} {F : Nat → Prop} {G : List Int} {wb : Nat} {pre : List Cv} {C1 : List Nat} {pv lv : Value} {ys zs : List Int} {st : List Nd} {w wc w2 : World}

/-- the way's own rows turn -/
theorem CI.mine (h : CI J C w0 F G wb pre C1 pv lv ys zs st w) (hJ : Stab w0.heap.size J) (hE : Ext (wb :: ob lv) w w2) : J pre C1 w2 ∧ Lie w2 C1 ∧ Ext C w0 w2 := by
  have hM : ∀ b ∈ wb :: ob lv, w0.heap.size ≤ b ∧ b ∉ C1 := fun b hb => by
    rcases List.mem_cons.1 hb with rfl | hb
    · exact ⟨h.wy.wN, h.wn⟩
    · exact ⟨h.wy.lN b hb, h.ln b hb⟩
  exact ⟨hJ _ _ _ _ _ h.j hE hM, h.lie.ext hE, h.ext.trans hE fun b hb => .inr (hM b hb).1⟩

theorem CI.on_ (h : CI J C w0 F G wb pre C1 pv lv ys [] st w) (hJ : Stab w0.heap.size J) {pv' lv' : Value} {ys' : List Int} {st' : List Nd} (hW : Wy F w0.heap.size w2 wb pv' lv' ys' st') (ha : ys' ++ rst st' = rst st)
    (hE : Ext (wb :: ob lv) w w2) (hF : Fresh w.heap.size (ob lv) (ob lv')) : CI J C w0 F G wb pre C1 pv' lv' ys' ys' st' w2 := by
  obtain ⟨h1, h2, h3⟩ := h.mine hJ hE
  refine ⟨hW, by rw [ha]; have := h.all; simpa using this, h1, h2, h.fr, h3, h.wn, fun x hx hm => ?_⟩
  rcases hF x hx with h4 | h4
  · exact h.ln x h4 hm
  · have := h.lie x hm; omega

theorem CI.end_ (h : CI J C w0 F G wb pre C1 pv lv ys [] [] w) (hJ : Stab w0.heap.size J) (hE : Ext (wb :: ob lv) w w2) : ∃ C', Ext C w0 w2 ∧ Fresh w0.heap.size C C' ∧ Lie w2 C' ∧ ((∃ all, CkFin G (all.map (·.1)) ∧ J all C' w2) ∨ ∃ pre, Jx pre C' w2) := by
  obtain ⟨h1, h2, h3⟩ := h.mine hJ hE
  exact ⟨C1, h3, h.fr, h2, .inl ⟨pre, by have := h.all; simpa [rst, CkFin] using this, h1⟩⟩

/-- a piece is told -/
theorem CI.ahead (h : CI J C w0 F G wb pre C1 pv lv ys ys st w) (hJ : Stab w0.heap.size J) (hE : Ext [] w wc) {zq : Option Addr} {zc : Nat} (hO : OwnV wc 5 1 (.slice zq ys.length zc) ys.length (bv ys)) (hN : ∀ x ∈ ob (.slice zq ys.length zc), w.heap.size ≤ x) (hy : 0 < ys.length) {i : Nat} {p : Int}
    (hp : p = ((i + (told (pre.map (·.1))).length : Nat) : Int)) :
    CkNx i G (pre.map (·.1)) (p, ys) ∧ J pre C1 wc ∧ Lie wc C1 ∧ ckOk ((p, ys), .slice zq ys.length zc) wc ∧ (∀ b ∈ ckB ((p, ys), .slice zq ys.length zc), w0.heap.size ≤ b ∧ b < wc.heap.size ∧ b ∉ C1) := by
  refine ⟨⟨hp, fun he => by simp only at he; rw [he] at hy; simp at hy, rst st, h.all⟩, hJ _ _ _ _ _ h.j hE (fun b hb => by cases hb), h.lie.ext hE, hO, fun b hb => ⟨Nat.le_trans h.ext.size (hN b hb), hO.lie b hb, fun hm => ?_⟩⟩
  have h1 := hN b hb
  have h2 := h.lie b hm
  omega

theorem CI.behind (h : CI J C w0 F G wb pre C1 pv lv ys ys st w) {T : Nat → Prop} (hCT : ∀ b ∈ C, ¬T b) (hFT : ∀ x, F x → T x) (hE : Ext [] w wc) {zq : Option Addr} {zc : Nat} {p : Int} (hN : ∀ x ∈ ob (.slice zq ys.length zc), w.heap.size ≤ x)
    {b : Bool} (hR : Owes J Jx (pre ++ [((p, ys), .slice zq ys.length zc)]) (ckB ((p, ys), .slice zq ys.length zc) ++ C1) wc b w2) :
    match b with
    | true => ∃ C2, CI J C w0 F G wb (pre ++ [((p, ys), .slice zq ys.length zc)]) C2 pv lv ys [] st w2
    | false => ∃ C', Ext C w0 w2 ∧ Fresh w0.heap.size C C' ∧ Lie w2 C' ∧ ((∃ all, CkFin G (all.map (·.1)) ∧ J all C' w2) ∨ ∃ pre, Jx pre C' w2) := by
  obtain ⟨C2, hE2, hf2, hl2, hx⟩ := hR
  have hN' : ∀ x ∈ ckB ((p, ys), .slice zq ys.length zc), w.heap.size ≤ x := hN
  have hsz := hE.size
  have hM : ∀ x ∈ ckB ((p, ys), .slice zq ys.length zc) ++ C1, x ∈ C ∨ w0.heap.size ≤ x := fun x hx => by
    rcases List.mem_append.1 hx with h1 | h1
    · exact .inr (Nat.le_trans h.ext.size (hN' x h1))
    · exact h.fr x h1
  have hE3 : Ext C w0 w2 := (h.ext.trans0 hE).trans hE2 hM
  have hfr : Fresh w0.heap.size C C2 := fun x hx => by
    rcases hf2 x hx with h1 | h1
    · exact hM x h1
    · exact .inr (Nat.le_trans (h.ext.trans0 hE).size h1)
  have hnot : ∀ x, x < w.heap.size → x ∉ C1 → x ∉ ckB ((p, ys), .slice zq ys.length zc) ++ C1 := fun x h1 h2 hm => by
    rcases List.mem_append.1 hm with h3 | h3
    · have := hN' x h3; omega
    · exact h2 h3
  cases b with
  | false => exact ⟨C2, hE3, hfr, hl2, .inr ⟨_, hx⟩⟩
  | true =>
    have hwl := h.wy.lie
    refine ⟨C2, ⟨(h.wy.ext0 hE).ext hE2 fun x hx => ⟨fun hf => ?_, fun he => ?_, fun hm => ?_⟩, ?_, hx, hl2, hfr, hE3, ?_, fun x hx => ?_⟩⟩
    · rcases hM x hx with h1 | h1
      · exact hCT x h1 (hFT x hf)
      · have := h.wy.FN x hf; omega
    · subst he; exact hnot x (hwl x (by simp)) h.wn hx
    · exact hnot x (hwl x (by simp [hm])) (h.ln x hm) hx
    · rw [List.map_append, List.map_cons, List.map_nil, told_snoc, List.nil_append, List.append_assoc]; exact h.all
    · exact fresh_not hf2 (hnot wb (hwl wb (by simp)) h.wn) (Nat.lt_of_lt_of_le (hwl wb (by simp)) hsz)
    · exact fresh_not hf2 (hnot x (hwl x (by simp [hx])) (h.ln x hx)) (Nat.lt_of_lt_of_le (hwl x (by simp [hx])) hsz)
end
end Go.Proofs.Ytkdbfjomjlhfbaa
