/- The leaves of a tree: where each stands. -/
import Derived.Test.YtpglmeeledmkoaaT10
import Derived.Test.YtpglmeeledmkoaaCp
import Derived.Test.YtpglmeeledmkoaaT26
namespace Go.Proofs.Ytpglmeeledmkoaa
open Go.Vc

def lsum : List (Int × Tr) → Int
  | [] => 0
  | q :: l => q.2.wd + lsum l
/-- each stands where those ahead of it end -/
def Cum : Int → List (Int × Tr) → Prop
  | _, [] => True
  | p, q :: l => q.1 = p ∧ Cum (p + q.2.wd) l
theorem Cum.app : ∀ (a b : List (Int × Tr)) (p : Int), Cum p a → Cum (p + lsum a) b → Cum p (a ++ b)
  | [], b, p, _, h => by simpa [lsum] using h
  | q :: a, b, p, h1, h2 => ⟨h1.1, Cum.app a b _ h1.2 (by simp only [lsum] at h2; rwa [Int.add_assoc])⟩
theorem Cum.at : ∀ (a : List (Int × Tr)) (q : Int × Tr) (b : List (Int × Tr)) (p : Int), Cum p (a ++ q :: b) → q.1 = p + lsum a
  | [], q, b, p, h => by simpa [lsum] using h.1
  | x :: a, q, b, p, h => by
    have := Cum.at a q b _ h.2
    simp only [lsum]; omega

theorem walk_plen (t : Tr) (p : Int) : (walk t p).length = (pre t).length := by rw [← walk_pre t p, List.length_map]
theorem rowsOf_pre (t : Tr) (p : Int) : rowsOf (walk t p) = rowsT (pre t) := by rw [rowsOf_T, walk_pre]

theorem Scr.ext0 {w w' : World} {v : Value} {l : List Sx} (h : Scr w v l) (hE : Ext [] w w') : Scr w' v l :=
  ⟨h.rd.ext0 hE, fun s hs => ⟨(h.ok s hs).rd.ext0 hE, (h.ok s hs).n, (h.ok s hs).nn⟩, h.max⟩
end Go.Proofs.Ytpglmeeledmkoaa
