/- A store of many cells into a row, where the order is drawn. It states nothing of any program. -/
import Derived.Test.YtkkpghlcmcaoiaaDoorVm
namespace Go.Vc
open Go
theorem upon_store_ownN {P : Program} {ops : Array Oper} {w : World} {n : Nat} {m : Fm} {i : Nat} {b off size cap len : Nat} {vs : List Value} {e : TypeId} {xs : List Value} {Post : Value → World → Prop} (ho : storeOf P ops n m i = some (b, off, vs)) (hO : OwnR w e size b cap len xs)
    (hlt : off + vs.length ≤ len * size) (hp : ∀ w', OwnR w' e size b cap len (setL xs off vs) → Ext [b] w w' → w'.heap.size = w.heap.size → Post undef w') : UponAt P ops n m i w Post := by
  obtain ⟨⟨cur, hb, hs, ht⟩, h1, h2, h3⟩ := hO
  have hm : len * size ≤ cap * size := Nat.mul_le_mul_right _ h1
  exact upon_store ho hb (by omega) (hp _ (OwnR.setN hb hs ht h1 h2 h3) ((Ext.refl [b] w).updIn (.inl (by simp)) _ _) upd_size)
end Go.Vc
