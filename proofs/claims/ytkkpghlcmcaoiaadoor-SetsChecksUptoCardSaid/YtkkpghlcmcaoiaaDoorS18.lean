import Derived.Test.YtkkpghlcmcaoiaaDoorS13
import Derived.Test.YtkkpghlcmcaoiaaDoorS17
namespace Go.Proofs.YtkkpghlcmcaoiaaDoor
open Go.Vc Go.Gm

theorem FirR.len {S : Sp} {ls : List (List Nat)} (h : FirR S ls) : ls.length = S.ns.length := by
 obtain ⟨fs, rfl, h1, _⟩ := h
 rw [List.length_map, h1]
theorem FolR.len {S : Sp} {ls : List (List Nat)} (h : FolR S ls) : ls.length = S.ns.length := by
 obtain ⟨fs, rfl, h1, _⟩ := h
 rw [List.length_map, h1]
section
variable {w0 w : World} {S : Sp} (hG : SpOk w0 S) (hb : Ext [] w0 w) (hok : GOk S)
include hG hb hok
theorem Follow_ok (hT : Tab w0) : Calls Tryd.prog 16 #[.agg S.ca] w fun e w' => ∃ bs cp L ls, e = .returned (.tuple #[.slice bs S.ns.length cp, .agg #[I6 0, I6 0, .string ⟨#[]⟩]]) ∧ Lsts w.heap.size w' bs S.ns.length cp L ls ∧ FolR S ls ∧ Ext [] w w' := by
 refine (Follow_any hG hb hT).mono ?_
 rintro e w' ⟨z, hZ, h | ⟨_, bs, m, cp, L, ls, h1, h2, h3⟩, hE⟩
 ·exact absurd (hZ.zero.2.2 hok) h.1
 ·obtain rfl : m = S.ns.length := h2.len.2.symm.trans h3.len
  exact ⟨bs, cp, L, ls, h1, h2, h3, hE⟩
end
/-- the rows that Yields tells, or that there are none -/
def YoR (S : Sp) (k at' : Int) (bs : Option Addr) (m cp : Nat) (L : List Rw) (ls : List (List Nat)) : Prop := ∃ vs, LenR S vs ∧ ((k = 6 ∧ (fY vs 0).1 ≠ 0 ∧ at' = (fY vs 0).2 ∧ bs = none ∧ m = 0 ∧ cp = 0 ∧ L = [] ∧ ls = []) ∨ (k = 0 ∧ at' = 0 ∧ (fY vs 0).1 = 0 ∧ m = S.ns.length ∧ YldR S ls))
theorem Lsts.none (N : Nat) (w : World) : Lsts N w none 0 0 [] [] := ⟨OwnV.nil _ _ _, fun x hx => by simp [ob] at hx, Fam.nil, rfl⟩
theorem Yields_ok {w0 w : World} {S : Sp} (hG : SpOk w0 S) (hb : Ext [] w0 w) (hok : GOk S) : Calls Tryd.prog 17 #[.agg S.ca] w fun e w' => ∃ bs m cp L ls k at', e = .returned (.tuple #[.slice bs m cp, .agg #[I6 k, I6 at', .string ⟨#[]⟩]]) ∧ Lsts w.heap.size w' bs m cp L ls ∧ YoR S k at' bs m cp L ls ∧ Ext [] w w' := by
 refine (Yields_any hG hb).mono ?_
 rintro e w' ⟨z, hZ, h | ⟨_, vs, hL, ⟨h1, h2⟩ | ⟨h1, bs, m, cp, L, ls, h2, h3, h4⟩⟩, hE⟩
 ·exact absurd (hZ.zero.2.2 hok) h.1
 ·exact ⟨none, 0, 0, [], [], 6, _, h2, Lsts.none _ _, ⟨vs, hL, .inl ⟨rfl, h1, rfl, rfl, rfl, rfl, rfl, rfl⟩⟩, hE⟩
 ·exact ⟨bs, m, cp, L, ls, 0, 0, h2, h3, ⟨vs, hL, .inr ⟨rfl, rfl, h1, h3.len.2.symm.trans h4.1, h4⟩⟩, hE⟩
/-- all that is told -/
structure Td where
 eg : Nat
 es : List Bool
 fb : Option Addr
 fc : Nat
 fL : List Rw
 fl : List (List Nat)
 wb : Option Addr
 wc : Nat
 wL : List Rw
 wl : List (List Nat)
 yb : Option Addr
 yn : Nat
 yc : Nat
 yL : List Rw
 yl : List (List Nat)
 full : Bool
def Td.cells (S : Sp) (T : Td) : Array Value := #[Sl T.eg S.ns.length S.ns.length, .slice T.fb S.ns.length T.fc, .slice T.wb S.ns.length T.wc, .slice T.yb T.yn T.yc, .bool T.full]
structure TdOk (S : Sp) (N : Nat) (w : World) (T : Td) : Prop where
 re : OwnR w 4 1 T.eg S.ns.length S.ns.length (bls T.es)
 ne : N ≤ T.eg
 isE : IsD S.g false S.ns.length T.es
 lf : Lsts N w T.fb S.ns.length T.fc T.fL T.fl
 isF : FirR S T.fl
 lw : Lsts N w T.wb S.ns.length T.wc T.wL T.wl
 isW : FolR S T.wl
 ly : Lsts N w T.yb T.yn T.yc T.yL T.yl
 isY : ∃ k at', YoR S k at' T.yb T.yn T.yc T.yL T.yl ∧ (T.full = true ↔ k = 6)
 afw : ∀ b ∈ oa T.fb ++ bl T.fL, b ∉ oa T.wb ++ bl T.wL
 afy : ∀ b ∈ oa T.fb ++ bl T.fL, b ∉ oa T.yb ++ bl T.yL
 awy : ∀ b ∈ oa T.wb ++ bl T.wL, b ∉ oa T.yb ++ bl T.yL
theorem Lsts.lie {N : Nat} {w : World} {bs : Option Addr} {n cp : Nat} {L : List Rw} {ls : List (List Nat)} (h : Lsts N w bs n cp L ls) : ∀ b ∈ oa bs ++ bl L, b < w.heap.size := fun b hb => by
 rcases List.mem_append.1 hb with hb | hb
 ·exact h.own.lie b (by rw [ob_oa]; exact hb)
 ·exact h.fam.blt b hb
theorem Lsts.ge {N : Nat} {w : World} {bs : Option Addr} {n cp : Nat} {L : List Rw} {ls : List (List Nat)} (h : Lsts N w bs n cp L ls) : ∀ b ∈ oa bs ++ bl L, N ≤ b := fun b hb => by
 rcases List.mem_append.1 hb with hb | hb
 ·exact h.new b (by rw [ob_oa]; exact hb)
 ·exact h.fam.bD b hb
theorem Lsts.apart {N N' : Nat} {w w' : World} {bs bs' : Option Addr} {n n' cp cp' : Nat} {L L' : List Rw} {ls ls' : List (List Nat)} (h : Lsts N w bs n cp L ls) (h' : Lsts N' w' bs' n' cp' L' ls') (hN : w.heap.size ≤ N') : ∀ b ∈ oa bs ++ bl L, b ∉ oa bs' ++ bl L' := fun b hb hb' => by
 have h1 := h.lie b hb
 have h2 := h'.ge b hb'
 omega

end Go.Proofs.YtkkpghlcmcaoiaaDoor
