/- Rows cut, of elements of any size. It states nothing of any program. -/
import Derived.Test.YtkkpghlcmcaoiaaDoorVg
namespace Go.Vc
open Go

def rsz (s : Nat) (v : Value) (l h m : Nat) : Value := match v with
  | .slice a _ _ => .slice (if m = l then a else a.map (·.add (l * s))) (h - l) (m - l)
  | v => v
section
variable {w w' : World} {n : Nat} {v : Value} {xs : List Value} {size : Nat}
theorem RdV.capZ (h : RdV w size v n xs) : n ≤ capOf v := by
  rcases h with ⟨a, c, rfl, rfl, _⟩ | ⟨b, off, cap, rfl, _, h2, _⟩
  · exact Nat.zero_le _
  · exact h2
theorem RdV.cutZ (h : RdV w size v n xs) {l k m : Nat} (hl : l ≤ k) (hk : k ≤ n) (hm : k ≤ m) : RdV w size (rsz size v l k m) (k - l) ((xs.drop (l * size)).take ((k - l) * size)) := by
  rcases h with ⟨a, c, rfl, rfl, rfl⟩ | ⟨b, off, cap, rfl, h1, h2, h3⟩
  · obtain rfl : k = 0 := by omega
    exact .inl ⟨_, _, by rw [rsz, Nat.zero_sub], by simp, by simp⟩
  · by_cases hkl : k = l
    · subst hkl
      exact .inl ⟨_, _, by rw [rsz, Nat.sub_self], by simp, by simp⟩
    · refine .inr ⟨b, off + l * size, m - l, ?_, ?_, by omega, fun j u hu => ?_⟩
      · have hne : m ≠ l := by omega
        simp only [rsz, if_neg hne, Option.map_some]
        have hadd : (⟨b, off, none⟩ : Addr).add (l * size) = ⟨b, off + l * size, none⟩ := addr_add b off (l * size)
        rw [hadd]
      · have e1 : (k - l) * size ≤ (n - l) * size := Nat.mul_le_mul_right _ (by omega)
        rw [List.length_take, List.length_drop, h1, ← Nat.sub_mul]; omega
      · rw [List.getElem?_take] at hu
        split at hu
        · rw [List.getElem?_drop] at hu
          rw [show off + l * size + j = off + (l * size + j) by omega]
          exact h3 (l * size + j) u hu
        · cases hu
theorem sl_z {P : Program} {w0 : World} {T e : TypeId} {l k : Nat} (lo hi : Option Value) (h : RdV w0 size v n xs) (hT : closedD P (underlying T) = some (.slice e)) (hs : closedN P (sizeOf e) = some size)
    (hlo : (lo = none ∧ l = 0) ∨ ∃ kd, lo = some (.int kd (l : Int))) (hhi : (hi = none ∧ k = n) ∨ ∃ kd, hi = some (.int kd (k : Int))) (hl : l ≤ k) (hk : k ≤ n) :
    (vS (Instr.sliceAt T v lo hi none)).run P w = .ok (.value (rsz size v l k (capOf v))) w := by
  have hc := h.capZ
  obtain ⟨a, c, rfl, hn⟩ : ∃ a c, v = .slice a n c ∧ n ≤ c := by
    rcases h with ⟨a, c, rfl, rfl, _⟩ | ⟨b, off, cap, rfl, _, h2, _⟩
    · exact ⟨a, c, rfl, Nat.zero_le _⟩
    · exact ⟨_, cap, rfl, h2⟩
  have hkc : k ≤ c := by omega
  refine vS_run ?_
  rcases hlo with ⟨rfl, rfl⟩ | ⟨kd, rfl⟩ <;> rcases hhi with ⟨rfl, rfl⟩ | ⟨kd', rfl⟩ <;>
    simp [Instr.sliceAt, Instr.slice, Instr.sliceBounds, Instr.sliceBound, asIntOf, closedD_run hT w, closedN_run hs w, hl, hk, hkc, hn, rsz, capOf]
  all_goals rfl
end
end Go.Vc
