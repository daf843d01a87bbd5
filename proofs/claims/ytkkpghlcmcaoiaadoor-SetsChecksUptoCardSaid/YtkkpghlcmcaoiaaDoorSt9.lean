/- Rows of rows in the world, some of them nil; what a production makes of them. -/
import Derived.Test.YtkkpghlcmcaoiaaDoorS14
namespace Go.Proofs.YtkkpghlcmcaoiaaDoor
open Go.Vc Go.Gm

/-- rows of numbers in an outer row: all apart; those of no numbers are nil -/
structure Yr (N : Nat) (w : World) (g cp n : Nat) (L : List Rw) (R : List (List Nat)) : Prop where
  own : OwnR w 51 1 g cp n (L.map Rw.v)
  fam : Fam w 3 1 (fun b => N ≤ b) L
  is : L.map (fun x => (x.n, x.xs)) = R.map fun l => (l.length, ivs l)
  nil : ∀ (k : Nat) (x : Rw), L[k]? = some x → x.n = 0 → x.v = .slice none 0 0
section
variable {N g cp n : Nat} {w w' : World} {L : List Rw} {R : List (List Nat)}
theorem Yr.ext0 (h : Yr N w g cp n L R) (hE : Ext [] w w') : Yr N w' g cp n L R := ⟨h.own.ext hE (by simp), h.fam.ext0 hE, h.is, h.nil⟩
theorem Yr.extT (h : Yr N w g cp n L R) {b T : Nat} {cs : Array Value} (hE : Ext [b] w w') (hB : Blk w b T cs) (h1 : 51 ≠ T) (h2 : 3 ≠ T) : Yr N w' g cp n L R :=
  ⟨h.own.ext hE (by simpa using h.own.ne_type hB h1), h.fam.ext hE (fun k x hx y hy hm => by simp at hm; rw [hm] at hy; exact h.fam.notT hB h2 (bl_mem hx _ hy)), h.is, h.nil⟩
theorem Yr.len (h : Yr N w g cp n L R) : L.length = n ∧ R.length = n := by
  have h1 := h.own.len
  have h2 := congrArg List.length h.is
  simp only [List.length_map] at h1 h2
  omega
theorem Yr.row (h : Yr N w g cp n L R) {j : Nat} {u : List Nat} (hu : R[j]? = some u) : ∃ x, L[j]? = some x ∧ x.n = u.length ∧ x.xs = ivs u := by
  have hl := h.len
  obtain ⟨x, hx⟩ : ∃ x, L[j]? = some x := ⟨_, List.getElem?_eq_getElem (by have := (List.getElem?_eq_some_iff.1 hu).1; omega)⟩
  have := congrArg (fun l => l[j]?) h.is
  simp only [List.getElem?_map, hx, hu, Option.map_some, Option.some.injEq, Prod.mk.injEq] at this
  exact ⟨x, hx, this.1, this.2⟩
/-- an entry: nil, or a row -/
theorem Yr.at (h : Yr N w g cp n L R) {j : Nat} {u : List Nat} (hu : R[j]? = some u) :
    (u = [] ∧ (L.map Rw.v)[0 + j * 1]? = some (.slice none 0 0)) ∨ (u ≠ [] ∧ ∃ gq cq, (L.map Rw.v)[0 + j * 1]? = some (.slice (some ⟨gq, 0, none⟩) u.length cq) ∧ OwnR w 3 1 gq cq u.length (ivs u)) := by
  obtain ⟨x, hx, h1, h2⟩ := h.row hu
  have hv : (L.map Rw.v)[0 + j * 1]? = some x.v := by rw [Nat.zero_add, Nat.mul_one, List.getElem?_map, hx]; rfl
  by_cases h3 : u = []
  · left
    subst h3
    exact ⟨rfl, by rw [hv, h.nil j x hx h1]⟩
  · right
    have hO := h.fam.own j x hx
    obtain ⟨gq, cq, h4, h5⟩ := hO.some_of_pos (by rw [h1]; exact List.length_pos_iff.2 h3)
    rw [h1] at h4
    rw [h1, h2] at h5
    exact ⟨h3, gq, cq, by rw [hv, h4], h5⟩
theorem Fam.put (h : Fam w 3 1 (fun b => N ≤ b) L) {j : Nat} {v : Value} {m : Nat} {xs : List Value} (hO : OwnV w 3 1 v m xs) (hN : ∀ b ∈ ob v, N ≤ b) (hd : ∀ (k : Nat) (x : Rw), L[k]? = some x → ∀ b ∈ ob x.v, b ∉ ob v) : Fam w 3 1 (fun b => N ≤ b) (L.set j ⟨v, m, xs⟩) := by
  have key : ∀ (k : Nat) (x : Rw), (L.set j (⟨v, m, xs⟩ : Rw))[k]? = some x → (k = j ∧ x = ⟨v, m, xs⟩) ∨ (k ≠ j ∧ L[k]? = some x) := fun k x hx => by
    rw [List.getElem?_set] at hx
    split at hx
    · rename_i h1
      split at hx
      · simp at hx; exact .inl ⟨h1.symm, hx.symm⟩
      · cases hx
    · rename_i h1; exact .inr ⟨fun h2 => h1 h2.symm, hx⟩
  refine ⟨fun k x hx => ?_, fun k x hx => ?_, fun a b x y hab hx hy => ?_⟩
  · rcases key k x hx with ⟨_, rfl⟩ | ⟨_, hx⟩
    · exact hO
    · exact h.own k x hx
  · rcases key k x hx with ⟨_, rfl⟩ | ⟨_, hx⟩
    · exact hN
    · exact h.new k x hx
  · rcases key a x hx with ⟨ha, rfl⟩ | ⟨ha, hx⟩
    · rcases key b y hy with ⟨hb, rfl⟩ | ⟨hb, hy⟩
      · omega
      · exact fun z hz hz' => hd b y hy z hz' hz
    · rcases key b y hy with ⟨hb, rfl⟩ | ⟨hb, hy⟩
      · exact hd a x hx
      · exact h.dj a b x y hab hx hy
end
theorem ivs_one : ∀ xs : List Nat, oneAll (ivs xs) = true
  | [] => rfl
  | _ :: xs => by simp only [ivs, List.map_cons, oneAll]; exact ivs_one xs
theorem ivs_app (xs ys : List Nat) : ivs (xs ++ ys) = ivs xs ++ ivs ys := by simp [ivs]
theorem RowN.growI {N : Nat} {w w1 : World} {bs : Option Addr} {n cp g ca : Nat} {zs : List Nat} {z : Int} {m : Nat} (h : RowN N w bs n cp zs) (hz : z = (m : Int)) (hO : OwnR w1 3 1 g ca (n + 1) (ivs zs ++ [I6 z])) {M : Nat} (hM : N ≤ M) (hF : Fresh M (ob (.slice bs n cp)) [g]) : RowN N w1 (some ⟨g, 0, none⟩) (n + 1) ca (zs ++ [m]) := by
  subst hz
  exact h.grow hO hM hF
/-- what a production makes of rows: the row, or that it makes none of the length -/
structure MadeR (S : Sp) (V : Nat → Nat) (R : List (List Nat)) (p : Pd) (zs : List Nat) (ok : Bool) : Prop where
  yes : ok = true → zs = mkR S.nl (rF R) (row p.r) ∧ zs.length = V p.l.toNat ∧ ∀ B, Sm.m B ∈ row p.r → V B > 0 → rF R B ≠ []
  no : ok = false → ¬((∀ B, Sm.m B ∈ row p.r → V B > 0 → rF R B ≠ []) ∧ (mkR S.nl (rF R) (row p.r)).length = V p.l.toNat)
/-- as far as k -/
structure MadeK (S : Sp) (V : Nat → Nat) (R : List (List Nat)) (p : Pd) (k : Nat) (zs : List Nat) : Prop where
  z : zs = mkR S.nl (rF R) ((row p.r).take k)
  a : ∀ B, Sm.m B ∈ (row p.r).take k → V B > 0 → rF R B ≠ []
  l : zs.length ≤ V p.l.toNat
section
variable {S : Sp} {V : Nat → Nat} {R : List (List Nat)} {p : Pd} {k : Nat} {zs : List Nat} {x : Sy}
theorem take_row_eq (hk : p.r[k]? = some x) : (row p.r).take (k + 1) = (row p.r).take k ++ [sm x] := by
  rw [List.take_add_one, row, List.getElem?_map, hk]; rfl
theorem MadeK.start : MadeK S V R p 0 [] := ⟨rfl, fun B hB => by simp at hB, Nat.zero_le _⟩
/-- the next symbol's row -/
def sy1 (nl : Nat) (R : List (List Nat)) : Sm → List Nat
  | .t n => [n]
  | .e => [nl]
  | .m A => rF R A
theorem mkR_one (nl : Nat) (R : List (List Nat)) (x : Sm) : mkR nl (rF R) [x] = sy1 nl R x := by
  cases x <;> simp [mkR, sy1]
theorem MadeK.z1 (h : MadeK S V R p k zs) (hk : p.r[k]? = some x) : zs ++ sy1 S.nl R (sm x) = mkR S.nl (rF R) ((row p.r).take (k + 1)) := by
  rw [take_row_eq hk, mkR_app, ← h.z, mkR_one]
theorem MadeK.step (h : MadeK S V R p k zs) (hk : p.r[k]? = some x) (hx : ∀ B, sm x = .m B → V B > 0 → rF R B ≠ []) (hl : (zs ++ sy1 S.nl R (sm x)).length ≤ V p.l.toNat) : MadeK S V R p (k + 1) (zs ++ sy1 S.nl R (sm x)) :=
  ⟨h.z1 hk, fun B hB => by
    rw [take_row_eq hk, List.mem_append, List.mem_singleton] at hB
    rcases hB with hB | hB
    · exact h.a B hB
    · exact hx B hB.symm, hl⟩
theorem MadeR.over (h : MadeK S V R p k zs) (hk : p.r[k]? = some x) (hl : V p.l.toNat < (zs ++ sy1 S.nl R (sm x)).length) : MadeR S V R p [] false :=
  ⟨fun h => (by cases h), fun _ ⟨_, h2⟩ => by
    rw [h.z1 hk] at hl
    have : mkR S.nl (rF R) (row p.r) = mkR S.nl (rF R) ((row p.r).take (k + 1)) ++ mkR S.nl (rF R) ((row p.r).drop (k + 1)) := by rw [← mkR_app, List.take_append_drop]
    rw [this, List.length_append] at h2
    omega⟩
theorem MadeR.lack (hk : p.r[k]? = some x) (h3 : sm x = .m x.2.toNat) (hv : V x.2.toNat > 0) (hr : rF R x.2.toNat = []) : MadeR S V R p [] false :=
  ⟨fun h => (by cases h), fun _ ⟨h1, _⟩ => h1 x.2.toNat (by rw [← h3]; exact List.mem_map.2 ⟨x, List.mem_of_getElem? hk, rfl⟩) hv hr⟩
theorem MadeK.done (h : MadeK S V R p p.r.length zs) {ok : Bool} (ho : ok = true ↔ zs.length = V p.l.toNat) : MadeR S V R p zs ok := by
  have hz := h.z
  have ha := h.a
  rw [List.take_of_length_le (by rw [row_len]; exact Nat.le_refl _)] at hz ha
  exact ⟨fun h1 => ⟨hz, ho.1 h1, ha⟩, fun h1 ⟨_, h2⟩ => by
    rw [← hz] at h2
    have := ho.2 h2
    rw [h1] at this; cases this⟩
end
end Go.Proofs.YtkkpghlcmcaoiaaDoor
