/- What goes through a rope's pieces, whatever the world became; bytes that were told are the same. -/
import Derived.Test.YtkdbfjomjlhfbaaR28
namespace Go.Proofs.Ytkdbfjomjlhfbaa
open Go.Vc
set_option linter.unusedSectionVars false
variable [Inhabited Zt]
/-- what goes through a rope's pieces from i on, whatever the world became that left it -/
def SqC (w0 : World) (fb rb i : Nat) (xs : List Int) : Prop := ∃ T : Nat → Prop, (∀ b, T b → b < w0.heap.size) ∧ ∀ W, Ext [] w0 W → SeqOk (α := Cp) (β := Cv) Try.prog 65 [Pv fb, Pv rb] (·.1) ckE ckB ckOk (CkNx i (xs.drop i)) (CkFin (xs.drop i)) T W
theorem SqC.ext0 {w w' : World} {fb rb i : Nat} {xs : List Int} (h : SqC w fb rb i xs) (hE : Ext [] w w') : SqC w' fb rb i xs := by
  obtain ⟨T, h1, h2⟩ := h
  exact ⟨T, fun b hb => Nat.lt_of_lt_of_le (h1 b hb) hE.size, fun W hW => h2 W (hE.trans0 hW)⟩
theorem Chunks_Y {F : Ta} {w : World} {b : Nat} {xs : List Int} (h : Rp2 F w b xs) {i : Nat} (hi : i ≤ xs.length) : Calls Try.prog 30 #[Pv b, I6 i] w fun e w' => ∃ fb rb, e = .returned (.tuple #[.func (.func 65) #[] #[Pv fb, Pv rb], I6 0]) ∧ SqC w' fb rb i xs ∧ Ext [] w w' := by
  obtain ⟨o, hR, rfl⟩ := h
  refine (@Chunks_any F.Z _ _ _ hR i (by simp only [on]; omega)).mono fun e w' ⟨fb, rb, h1, h2, h3, _, _, hE⟩ => ⟨fb, rb, h1, ⟨fun x => x = fb ∨ x = rb ∨ x = b ∨ footO o x, ?_, fun W hW => ?_⟩, hE⟩
  · rintro x (rfl | rfl | rfl | hx)
    · exact h2.lt
    · exact h3.lt
    · exact (hR.ext0 hE).1.lt
    · exact @okO.foot F.Z _ _ (hR.ext0 hE).2.1 x hx
  · exact @chunks1_any F.Z _ _ _ _ _ _ (h2.ext hW (by simp)) (h3.ext hW (by simp)) ((hR.ext0 hE).ext0 hW) (by simp only [on]; omega)
theorem Chunks_N {F : Ta} {w : World} {b : Nat} {xs : List Int} (h : Rp2 F w b xs) {x : Int} (hx : x < 0 ∨ x > (xs.length : Int)) : Calls Try.prog 30 #[Pv b, I6 x] w fun e w' => e = .returned (.tuple #[.nilFunc, I6 3]) ∧ Ext [] w w' := by
  obtain ⟨o, h, rfl⟩ := h
  exact @Chunks_no F.Z _ _ _ h _ (by simp only [on]; omega)
theorem SameB_cut {w : World} {va vb : Value} {n m : Nat} {ys zs : List Int} (ha : RdV w 1 va n (bv ys)) (hb : RdV w 1 vb m (bv zs)) (h : zs = ys) (hn : n ≤ 100000000000) : Calls Try.prog 31 #[va, vb] w fun e w' => e = .returned (.bool true) ∧ Ext [] w w' := by
  subst h
  obtain rfl : n = m := by have h1 := ha.len; have h2 := hb.len; simp at h1 h2; omega
  exact SameB_true (F := Ta.new 0) ha hb hn
theorem cut_told {xs ys rest : List Int} {i tl : Nat} {pre : List Int} (h : pre ++ (ys ++ rest) = xs.drop i) (hl : pre.length = tl) : (xs.drop (i + tl)).take (i + tl + ys.length - (i + tl)) = ys := by
  rw [← List.drop_drop, ← h, ← hl, List.drop_left, Nat.add_sub_cancel_left, List.take_left]
end Go.Proofs.Ytkdbfjomjlhfbaa
