/- What a rope and a reference's rope are asked: the same answers. -/
import Derived.Test.YtkdbfjomjlhfbaaR24
namespace Go.Proofs.Ytkdbfjomjlhfbaa
open Go.Vc

def atV (xs : List Int) (x : Int) : Int := if 0 ≤ x ∧ x < (xs.length : Int) then xs.getD x.toNat 0 else 0
def atB (xs : List Int) (x : Int) : Bool := decide (0 ≤ x ∧ x < (xs.length : Int))
def rowK (xs : List Int) (x : Int) : Int × Int × Int := if 0 ≤ x ∧ x ≤ (xs.length : Int) then ((rws (xs.take x.toNat) : Nat), (colAt xs x.toNat : Nat), 0) else (0, 0, 3)
def staK (xs : List Int) (x : Int) : Int × Int := if 0 ≤ x ∧ x ≤ (rws xs : Nat) then ((sof xs x.toNat : Nat), 0) else (0, 3)
def partB (xs : List Int) (x y : Int) : List Int := if 0 ≤ x ∧ x ≤ y ∧ y ≤ (xs.length : Int) then (xs.drop x.toNat).take (y.toNat - x.toNat) else []
def partE (xs : List Int) (x y : Int) : Int := if 0 ≤ x ∧ x ≤ y ∧ y ≤ (xs.length : Int) then 0 else 3
theorem partB_le (xs : List Int) (x y : Int) : (partB xs x y).length ≤ xs.length := by
  unfold partB
  split
  · simp; omega
  · simp
section
variable {F : Ta} {w : World}
theorem At_X {b : Nat} {o : Option Nd} (h : RpT F w b o) (x : Int) : Calls Try.prog 22 #[Pv b, I6 x] w fun e w' => e = .returned (.tuple #[.int .u8 (atV (obs o) x), .bool (atB (obs o) x)]) ∧ Ext [] w w' := by
  unfold atV atB
  by_cases hc : 0 ≤ x ∧ x < ((obs o).length : Int)
  · rw [if_pos hc, decide_eq_true hc]
    obtain ⟨i, rfl⟩ : ∃ i : Nat, x = (i : Int) := ⟨x.toNat, by omega⟩
    exact @At_any F.Z _ _ _ h i _ (by rw [Int.toNat_natCast, List.getD_eq_getElem?_getD, List.getElem?_eq_getElem (by omega)]; rfl)
  · rw [if_neg hc, decide_eq_false hc]
    exact @At_no F.Z _ _ _ h _ (by simp only [on]; omega)
theorem rAt_X {c : Nat} {v : Value} {xs : List Int} (h : RfT F w c v xs) (x : Int) : Calls Try.prog 46 #[Pv c, I6 x] w fun e w' => e = .returned (.tuple #[.int .u8 (atV xs x), .bool (atB xs x)]) ∧ Ext [] w w' := by
  unfold atV atB
  have k : ∀ {r : Value}, (Calls Try.prog 46 #[Pv c, I6 x] w fun e w' => e = .returned r ∧ w' = w) → Calls Try.prog 46 #[Pv c, I6 x] w fun e w' => e = .returned r ∧ Ext [] w w' := fun h => h.mono fun e w' ⟨h1, h2⟩ => ⟨h1, by rw [h2]; exact Ext.refl _ _⟩
  by_cases hc : 0 ≤ x ∧ x < (xs.length : Int)
  · rw [if_pos hc, decide_eq_true hc]
    obtain ⟨i, rfl⟩ : ∃ i : Nat, x = (i : Int) := ⟨x.toNat, by omega⟩
    exact k (@rAt_any F.Z _ _ _ _ _ h.1 h.2.1 h.2.2.2 i _ (by omega) (by rw [Int.toNat_natCast, List.getD_eq_getElem?_getD, List.getElem?_eq_getElem (by omega)]; rfl))
  · rw [if_neg hc, decide_eq_false hc]
    by_cases h1 : x < 0
    · exact k (@rAt_0 F.Z _ _ _ _ _ h.1 h.2.1 h.2.2.2 _ h1)
    · exact k (@rAt_1 F.Z _ _ _ _ _ h.1 h.2.1 h.2.2.2 _ ⟨by omega, by omega⟩)
theorem Row_X {b : Nat} {o : Option Nd} (h : RpT F w b o) (x : Int) : Calls Try.prog 17 #[Pv b, I6 x] w fun e w' => e = .returned (.tuple #[I6 (rowK (obs o) x).1, I6 (rowK (obs o) x).2.1, I6 (rowK (obs o) x).2.2]) ∧ Ext [] w w' := by
  unfold rowK
  by_cases hc : 0 ≤ x ∧ x ≤ ((obs o).length : Int)
  · rw [if_pos hc]
    obtain ⟨i, rfl⟩ : ∃ i : Nat, x = (i : Int) := ⟨x.toNat, by omega⟩
    exact @Row_any F.Z _ _ _ h i (by simp only [on]; omega)
  · rw [if_neg hc]
    exact @Row_no F.Z _ _ _ h _ (by simp only [on]; omega)
theorem rRow_X {c : Nat} {v : Value} {xs : List Int} (h : RfT F w c v xs) (x : Int) : Calls Try.prog 47 #[Pv c, I6 x] w fun e w' => e = .returned (.tuple #[I6 (rowK xs x).1, I6 (rowK xs x).2.1, I6 (rowK xs x).2.2]) ∧ Ext [] w w' := by
  unfold rowK
  have k : ∀ {r : Value}, (Calls Try.prog 47 #[Pv c, I6 x] w fun e w' => e = .returned r ∧ w' = w) → Calls Try.prog 47 #[Pv c, I6 x] w fun e w' => e = .returned r ∧ Ext [] w w' := fun h => h.mono fun e w' ⟨h1, h2⟩ => ⟨h1, by rw [h2]; exact Ext.refl _ _⟩
  by_cases hc : 0 ≤ x ∧ x ≤ (xs.length : Int)
  · rw [if_pos hc]
    obtain ⟨i, rfl⟩ : ∃ i : Nat, x = (i : Int) := ⟨x.toNat, by omega⟩
    exact k (@rRow_any F.Z _ _ _ _ _ h.1 h.2.1 h.2.2.2 i (by omega))
  · rw [if_neg hc]
    by_cases h1 : x < 0
    · exact k (@rRow_0 F.Z _ _ _ _ _ h.1 h.2.1 h.2.2.2 _ h1)
    · exact k (@rRow_1 F.Z _ _ _ _ _ h.1 h.2.1 h.2.2.2 _ ⟨by omega, by omega⟩)
theorem Start_X {b : Nat} {o : Option Nd} (h : RpT F w b o) (x : Int) : Calls Try.prog 16 #[Pv b, I6 x] w fun e w' => e = .returned (.tuple #[I6 (staK (obs o) x).1, I6 (staK (obs o) x).2]) ∧ Ext [] w w' := by
  unfold staK
  by_cases hc : 0 ≤ x ∧ x ≤ (rws (obs o) : Nat)
  · rw [if_pos hc]
    obtain ⟨i, rfl⟩ : ∃ i : Nat, x = (i : Int) := ⟨x.toNat, by omega⟩
    exact @Start_any F.Z _ _ _ h i (by omega)
  · rw [if_neg hc]
    exact @Start_no F.Z _ _ _ h _ (by omega)
theorem rStart_X {c : Nat} {v : Value} {xs : List Int} (h : RfT F w c v xs) (x : Int) (hx : x ≤ 9223372036854775807) : Calls Try.prog 29 #[Pv c, I6 x] w fun e w' => e = .returned (.tuple #[I6 (staK xs x).1, I6 (staK xs x).2]) ∧ Ext [] w w' := by
  unfold staK
  have k : ∀ {r : Value}, (Calls Try.prog 29 #[Pv c, I6 x] w fun e w' => e = .returned r ∧ w' = w) → Calls Try.prog 29 #[Pv c, I6 x] w fun e w' => e = .returned r ∧ Ext [] w w' := fun h => h.mono fun e w' ⟨h1, h2⟩ => ⟨h1, by rw [h2]; exact Ext.refl _ _⟩
  by_cases h1 : x < 0
  · rw [if_neg (by omega)]
    exact k (@rStart_0 F.Z _ _ _ _ _ h.1 h.2.1 h.2.2.2 _ h1)
  · obtain ⟨i, rfl⟩ : ∃ i : Nat, x = (i : Int) := ⟨x.toNat, by omega⟩
    have h2 := @rStart_any F.Z _ _ _ _ _ h.1 h.2.1 h.2.2.2 i (by omega)
    by_cases hc : i ≤ rws xs
    · rw [if_pos (by omega)]
      rw [if_pos hc, if_pos hc] at h2
      exact k h2
    · rw [if_neg (by omega)]
      rw [if_neg hc, if_neg hc] at h2
      exact k h2
def ByP (xs : List Int) (x y : Int) (w : World) (e : Ending) (w' : World) : Prop := ∃ q, e = .returned (.tuple #[q, I6 (partE xs x y)]) ∧ RdV w' 1 q (partB xs x y).length (bv (partB xs x y)) ∧ Ext [] w w'
theorem Part_X {b : Nat} {o : Option Nd} (h : RpT F w b o) (x y : Int) : Calls Try.prog 35 #[Pv b, I6 x, I6 y] w (ByP (obs o) x y w) := by
  unfold ByP partB partE
  by_cases hc : 0 ≤ x ∧ x ≤ y ∧ y ≤ ((obs o).length : Int)
  · rw [if_pos hc, if_pos hc]
    obtain ⟨i, rfl⟩ : ∃ i : Nat, x = (i : Int) := ⟨x.toNat, by omega⟩
    obtain ⟨j, rfl⟩ : ∃ j : Nat, y = (j : Int) := ⟨y.toNat, by omega⟩
    exact (@Part_any F.Z _ _ _ h i j ⟨by omega, by simp only [on]; omega⟩).mono fun e w' ⟨bs, cap, h1, h2, _, h3⟩ => ⟨_, h1, h2.rd, h3⟩
  · rw [if_neg hc, if_neg hc]
    exact (@Part_no F.Z _ _ _ h _ _ hc).mono fun e w' ⟨h1, h2⟩ => ⟨_, h1, .inl ⟨none, 0, rfl, rfl, rfl⟩, h2⟩
theorem rPart_X {c : Nat} {v : Value} {xs : List Int} (h : RfT F w c v xs) (x y : Int) : Calls Try.prog 48 #[Pv c, I6 x, I6 y] w (ByP xs x y w) := by
  unfold ByP partB partE
  by_cases hc : 0 ≤ x ∧ x ≤ y ∧ y ≤ (xs.length : Int)
  · rw [if_pos hc, if_pos hc]
    obtain ⟨i, rfl⟩ : ∃ i : Nat, x = (i : Int) := ⟨x.toNat, by omega⟩
    obtain ⟨j, rfl⟩ : ∃ j : Nat, y = (j : Int) := ⟨y.toNat, by omega⟩
    refine (@rPart_any F.Z _ _ _ _ _ h.1 h.2.1 h.2.2.2 i j ⟨by omega, by omega⟩).mono fun e w' ⟨bs, cap, h1, h2, _, h3⟩ => ⟨_, h1, ?_, h3⟩
    have h4 := h2.rd
    rw [show ((xs.drop (i : Int).toNat).take ((j : Int).toNat - (i : Int).toNat)).length = j - i by simp; omega]
    exact h4
  · rw [if_neg hc, if_neg hc]
    exact (@rPart_no F.Z _ _ _ _ _ h.1 h.2.1 h.2.2.2 _ _ hc).mono fun e w' ⟨h1, h2⟩ => ⟨_, h1, .inl ⟨none, 0, rfl, rfl, rfl⟩, h2⟩
theorem rRows_X {c : Nat} {v : Value} {xs : List Int} (h : RfT F w c v xs) : Calls Try.prog 28 #[Pv c] w fun e w' => e = .returned (I6 ((rws xs : Nat) + 1)) ∧ Ext [] w w' :=
  (@rRows_any F.Z _ _ _ _ _ h.1 h.2.1 h.2.2.2).mono fun e w' ⟨h1, h2⟩ => ⟨h1, by rw [h2]; exact Ext.refl _ _⟩
end
end Go.Proofs.Ytkdbfjomjlhfbaa
