/- The leaves of a tree: where each stands. -/
import Derived.Test.YtpglmeeledmkoaaT10
import Derived.Test.YtpglmeeledmkoaaCp
import Derived.Test.YtpglmeeledmkoaaT26
namespace Go.Proofs.Ytpglmeeledmkoaa
open Go.Vc

def lsum : List (Int × Tr) → Int
  | [] => 0
  | q :: l => q.2.wd + lsum l
/-- each stands where those ahead of it end -/
def Cum : Int → List (Int × Tr) → Prop
  | _, [] => True
  | p, q :: l => q.1 = p ∧ Cum (p + q.2.wd) l
theorem lsum_append : ∀ (a b : List (Int × Tr)), lsum (a ++ b) = lsum a + lsum b
  | [], b => by simp [lsum]
  | q :: a, b => by simp only [List.cons_append, lsum, lsum_append a b]; omega
theorem Cum.app : ∀ (a b : List (Int × Tr)) (p : Int), Cum p a → Cum (p + lsum a) b → Cum p (a ++ b)
  | [], b, p, _, h => by simpa [lsum] using h
  | q :: a, b, p, h1, h2 => ⟨h1.1, Cum.app a b _ h1.2 (by simp only [lsum] at h2; rwa [Int.add_assoc])⟩
theorem Cum.at : ∀ (a : List (Int × Tr)) (q : Int × Tr) (b : List (Int × Tr)) (p : Int), Cum p (a ++ q :: b) → q.1 = p + lsum a
  | [], q, b, p, h => by simpa [lsum] using h.1
  | x :: a, q, b, p, h => by
    have := Cum.at a q b _ h.2
    simp only [lsum]; omega

theorem leaves_cum {w : World} {sb : Nat} : ∀ t : Tr, t.Ok w sb → ∀ p, Cum p ((walk t p).filter isLeaf) ∧ lsum ((walk t p).filter isLeaf) = t.wd ∧ (((walk t p).filter isLeaf).length : Int) = t.lf := by
  refine Tr.ind fun t ih h p => ?_
  have hn := h.nums
  have key : ∀ (l : List Tr) (p : Int), (∀ k ∈ l, k ∈ t.kids) → Cum p ((walks l p).filter isLeaf) ∧ lsum ((walks l p).filter isLeaf) = sumW l ∧ (((walks l p).filter isLeaf).length : Int) = sumL l := by
    intro l
    induction l with
    | nil => intro p _; simp [walks, lsum, Cum, sumW, sumL]
    | cons k l ihl =>
      intro p hl
      obtain ⟨a1, a2, a3⟩ := ih k (hl k (by simp)) (h.oks.at (hl k (by simp))) p
      obtain ⟨b1, b2, b3⟩ := ihl (p + k.wd) (fun k hk => hl k (by simp [hk]))
      simp only [walks, List.filter_append, lsum_append, List.length_append, sumW, sumL]
      refine ⟨Cum.app _ _ _ a1 (by rw [a2]; exact b1), by omega, by omega⟩
  obtain ⟨k1, k2, k3⟩ := key t.kids p (fun _ h => h)
  rw [walk_eq]
  by_cases hk : t.kd = 1
  · obtain ⟨l1, l2, l3, _⟩ := hn.leaf hk
    rw [l1]
    have e : ((p, t) :: walks [] p).filter isLeaf = [(p, t)] := by simp [walks, isLeaf, hk]
    rw [e]
    refine ⟨⟨rfl, trivial⟩, by simp [lsum], by simp [l3]⟩
  · obtain ⟨_, _, _, _, _, _, _, n1, n2, _⟩ := hn.inner hk
    have e : ((p, t) :: walks t.kids p).filter isLeaf = (walks t.kids p).filter isLeaf := by
      rw [List.filter_cons_of_neg]; simp [isLeaf, hk]
    rw [e]
    exact ⟨k1, by omega, by omega⟩
theorem walk_plen (t : Tr) (p : Int) : (walk t p).length = (pre t).length := by rw [← walk_pre t p, List.length_map]
theorem rowsOf_pre (t : Tr) (p : Int) : rowsOf (walk t p) = rowsT (pre t) := by rw [rowsOf_T, walk_pre]

theorem Scr.ext0 {w w' : World} {v : Value} {l : List Sx} (h : Scr w v l) (hE : Ext [] w w') : Scr w' v l :=
  ⟨h.rd.ext0 hE, fun s hs => ⟨(h.ok s hs).rd.ext0 hE, (h.ok s hs).n, (h.ok s hs).nn⟩, h.max⟩
end Go.Proofs.Ytpglmeeledmkoaa
