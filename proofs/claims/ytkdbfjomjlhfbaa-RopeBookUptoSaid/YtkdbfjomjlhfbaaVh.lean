/- 'copy', and a row of bytes that is turned into itself, in the calculus of sparse frames. It states nothing of any program. -/
import Derived.Test.YtkdbfjomjlhfbaaVg
import Derived.Laws.CopyRow
import Derived.Laws.IdiomCopy
namespace Go.Vc
open Go

theorem copy_own {P : Program} {w : World} {dT sT ty e : TypeId} {g cap len c k : Nat} {u : Value} {ys xs : List Value} (hu : P.underlying dT = some (.slice e)) (hs : (P.info? e).map (·.size) = some 1)
    (hO : OwnR w e 1 g cap len ys) (hR : RdV w 1 u k xs) (hk : k ≤ len) (h1 : oneAll xs = true) :
    ∃ w', (vS (Builtin.copy_ #[dT, sT] ty #[.slice (some ⟨g, 0, none⟩) len c, u])).run P w = .ok (.value (.int .i64 k)) w' ∧ OwnR w' e 1 g cap len (xs ++ ys.drop k) ∧ Ext [g] w w' ∧ w'.heap.size = w.heap.size := by
  obtain ⟨⟨cur, hb, hcs, ht⟩, h2, h3, h4⟩ := hO
  rw [Nat.mul_one] at hcs ht h4
  have hxl : xs.length = k := by have := hR.len; simpa using this
  rcases hR with ⟨a, c', rfl, rfl, hx⟩ | ⟨b, off, c', rfl, h5, h6, h7⟩
  · subst hx
    refine ⟨w, vS_run (run_copy_none w dT sT ty e _ _ _ _ _ _ hu hs (by simp)), ?_, Ext.refl _ _, rfl⟩
    exact ⟨⟨cur, hb, by simpa using hcs, by simpa using ht⟩, h2, h3, by simpa using h4⟩
  · have hr := run_copy_row (P := P) w dT sT ty e g 0 len c ⟨b, off, none⟩ k c' cur e xs hu hs hb (by rw [hxl]; exact (Nat.min_eq_left hk).symm) (fun j v hj => by rw [addr_add]; exact h7 j v hj) (by rw [Nat.zero_add, hxl]; omega) (oneAll_spec h1)
    rw [hxl] at hr
    refine ⟨_, vS_run hr, ⟨⟨_, setRow_heap w g cur _ e _ hb, ?_, ?_⟩, h2, h3, ?_⟩, ⟨rfl, rfl, rfl, by simp, fun j _ hj => setRow_other w g j _ (fun e => hj (by simp [e]))⟩, by simp⟩
    · simp [hxl]; omega
    · rw [Nat.mul_one]
      simp only [List.take_zero, List.nil_append, Nat.zero_add, hxl]
      rw [List.take_append, hxl, List.take_of_length_le (l := xs) (by omega), ← ht, List.drop_take]
    · rw [List.length_append, List.length_drop, hxl, h4]; omega

/-- 'T(x)' of a row of bytes that is a T already: it is marked as one that may be a constant's -/
theorem conv_self {P : Program} {w : World} {T e : TypeId} {b k c : Nat} {cs : Array Value} (hT : P.underlying T = some (.slice e)) (he : P.underlying e = some (.int .u8)) (hB : Blk w b e cs) :
    ∃ w', (vS (convert T T (.slice (some ⟨b, 0, none⟩) k c))).run P w = .ok (.value (.slice (some ⟨b, 0, none⟩) k c)) w' ∧ Ext [b] w w' ∧ w'.heap.size = w.heap.size ∧ ∀ j u, cs[j]? = some u → w'.cell? ⟨b, j, none⟩ = some u := by
  have hb : w.heap[b]? = some (.cells cs e (0, 0)) := hB
  refine ⟨w.freeze ⟨b, cs.size, none⟩ 1, vS_run ?_, ?_, ?_, ?_⟩
  · have hsh : w.shape? b = some (e, cs.size) := hB.shape
    simp [convert, run_underlying hT, run_underlying he, markStringish, hsh]
  · refine ⟨rfl, rfl, rfl, ?_, fun j hj hn => ?_⟩
    · simp [World.freeze]
    · have hne : b ≠ j := fun h => hn (by simp [h])
      simp only [World.freeze]
      rw [if_neg (by decide)]
      simp only []
      rw [Array.getElem?_modify, if_neg hne]
  · simp [World.freeze]
  · intro j u hu
    simp only [World.cell?, World.freeze]
    rw [if_neg (by decide)]
    simp only []
    rw [Array.getElem?_modify, if_pos rfl, hb]
    simpa using hu
end Go.Vc
