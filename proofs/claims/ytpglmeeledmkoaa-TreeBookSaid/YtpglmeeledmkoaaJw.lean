/- Ways through a tree and beside it through the document's: cursors. -/
import Derived.Test.YtpglmeeledmkoaaT27
import Derived.Test.YtpglmeeledmkoaaT18
namespace Go.Proofs.Ytpglmeeledmkoaa
open Go.Vc

def idx (st : List Stp) : List Int := st.map fun s => s.2.1
theorem kidsOf_idx (st : List Stp) : kidsOf st = ints (idx st) := by simp [kidsOf, ints, idx]

/-- the way st leads from r to q, which begins at p -/
inductive JW (r : Rf) : List Stp → Rf → Int → Prop
  | nil : JW r [] r 0
  | snoc {st : List Stp} {q kid : Rf} {p : Int} {k : Nat} : JW r st q p → q.kids[k]? = some kid → JW r (st ++ [(q.t, (k : Int), p + sumW ((q.kids.take k).map Rf.t))]) kid (p + sumW ((q.kids.take k).map Rf.t))

theorem kids_sum {w : World} {s0 s1 : Nat} {L : List Rf} {q : Rf} (h : FOk w s0 s1 L) (hq : q ∈ L) (k : Nat) : sumW (q.t.kids.take k) = sumW ((q.kids.take k).map Rf.t) := by
  rw [(h.one q hq).kt, List.map_take]

section
variable {w : World} {s0 s1 : Nat} {L : List Rf} {r q kid : Rf} {st : List Stp} {p : Int}

theorem JW.unsnoc {s : Stp} (h : JW r (st ++ [s]) kid p) : ∃ q p0 k, JW r st q p0 ∧ q.kids[k]? = some kid ∧ s = (q.t, ((k : Nat) : Int), p) ∧ p = p0 + sumW ((q.kids.take k).map Rf.t) := by
  generalize hs : st ++ [s] = l at h
  cases h with
  | nil => simp at hs
  | snoc h1 h2 =>
    obtain ⟨rfl, h3⟩ := List.append_inj' hs rfl
    simp only [List.cons.injEq, and_true] at h3
    exact ⟨_, _, _, h1, h2, h3, rfl⟩
theorem JW.at0 (h : JW r [] q p) : q = r ∧ p = 0 := by
  generalize hs : ([] : List Stp) = l at h
  cases h with
  | nil => exact ⟨rfl, rfl⟩
  | snoc h1 h2 => simp at hs
theorem JW.last (h : JW r st q p) : lastB st = p := by
  cases h with
  | nil => rfl
  | snoc h1 h2 => rw [lastB_snoc]
theorem JW.mem (hF : FOk w s0 s1 L) (hr : r ∈ L) (h : JW r st q p) : q ∈ L := by
  induction h with
  | nil => exact hr
  | snoc h1 h2 ih => exact hF.mem ih (List.mem_of_getElem? h2)
theorem JW.bd (hF : FOk w s0 s1 L) (hr : r ∈ L) (h : JW r st q p) : 0 ≤ p ∧ p + q.t.wd ≤ r.t.wd ∧ (st.length : Int) + q.t.tt ≤ r.t.tt := by
  induction h with
  | nil => simp
  | @snoc st q kid p k h1 h2 ih =>
    have hq := h1.mem hF hr
    have ha := sums_take hF hq k
    have hb := sums_take hF hq (k + 1)
    have ht := rf_take_succ h2
    have e1 : sumW ((q.kids.take (k + 1)).map Rf.t) = sumW ((q.kids.take k).map Rf.t) + kid.t.wd := by rw [ht, List.map_append]; exact sumW_snoc _ _
    have e2 : sumT ((q.kids.take (k + 1)).map Rf.t) = sumT ((q.kids.take k).map Rf.t) + kid.t.tt := by rw [ht, List.map_append]; exact sumT_snoc _ _
    have hk := hF.tt (hF.mem hq (List.mem_of_getElem? h2))
    simp only [List.length_append, List.length_cons, List.length_nil]
    omega
/-- a way, taken so far -/
theorem JW.take (h : JW r st q p) : ∀ j, j ≤ st.length → ∃ q' p', JW r (st.take j) q' p' := by
  induction h with
  | nil => intro j hj; simp at hj; subst hj; exact ⟨r, 0, .nil⟩
  | @snoc st q kid p k h1 h2 ih =>
    intro j hj
    simp only [List.length_append, List.length_cons, List.length_nil] at hj
    rcases Nat.lt_or_ge j (st.length + 1) with h | h
    · rw [List.take_append_of_le_length (by omega)]
      exact ih j (by omega)
    · rw [List.take_of_length_le (by simp; omega)]
      exact ⟨_, _, .snoc h1 h2⟩
theorem JW.det {q' : Rf} {p' : Int} (h : JW r st q p) (h' : JW r st q' p') : q = q' ∧ p = p' := by
  induction h generalizing q' p' with
  | nil => obtain ⟨rfl, rfl⟩ := h'.at0; exact ⟨rfl, rfl⟩
  | snoc h1 h2 ih =>
    obtain ⟨q2, p2, k2, g1, g2, g3, g4⟩ := h'.unsnoc
    obtain ⟨rfl, rfl⟩ := ih g1
    simp only [Prod.mk.injEq] at g3
    obtain ⟨_, hk, _⟩ := g3
    have hk := Int.ofNat_inj.1 hk
    subst hk
    rw [h2] at g2
    exact ⟨by simpa using g2, g4.symm⟩
end

/-- the way to the leaf that holds a -/
inductive RTo (a : Int) : Rf → Int → List Stp → Rf → Int → Prop
  | leaf {r : Rf} {p : Int} : r.t.kd = 1 → RTo a r p [] r p
  | step {r c kid : Rf} {p q : Int} {st : List Stp} {k : Nat} : r.t.kd ≠ 1 → r.kids[k]? = some kid → p + sumW ((r.kids.take k).map Rf.t) ≤ a → a < p + sumW ((r.kids.take k).map Rf.t) + kid.t.wd →
      RTo a kid (p + sumW ((r.kids.take k).map Rf.t)) st c q → RTo a r p ((r.t, (k : Int), p + sumW ((r.kids.take k).map Rf.t)) :: st) c q

section
variable {w : World} {s0 s1 : Nat} {L : List Rf} {a : Int}

theorem ToR.lift (hF : FOk w s0 s1 L) {t c : Tr} {p q : Int} {st : List Stp} (h : ToR a t p st c q) : ∀ r ∈ L, r.t = t → ∃ c', RTo a r p st c' q ∧ c'.t = c := by
  induction h with
  | leaf hk => intro r _ hr; subst hr; exact ⟨r, .leaf hk, rfl⟩
  | @step t c p q st k kid hk h1 h2 h3 _ ih =>
    intro r hr he
    subst he
    rw [(hF.one r hr).kt] at h1
    simp only [List.getElem?_map, Option.map_eq_some_iff] at h1
    obtain ⟨kr, hkr, rfl⟩ := h1
    rw [kids_sum hF hr] at h2 h3 ih ⊢
    obtain ⟨c', h4, h5⟩ := ih kr (hF.mem hr (List.mem_of_getElem? hkr)) rfl
    exact ⟨c', .step hk hkr h2 h3 h4, h5⟩

theorem JW.to {r q c : Rf} {st st' : List Stp} {p p' : Int} (h : JW r st q p) (h' : RTo a q p st' c p') : JW r (st ++ st') c p' := by
  induction h' generalizing st with
  | leaf _ => simpa using h
  | step hk h1 h2 h3 _ ih =>
    have := ih (.snoc h h1)
    simpa using this

theorem rwalks_mem {s : Sp} : ∀ (l : List Rf) (p : Int) (path : List Int) (j : Nat), s ∈ rwalks l p path j ↔ ∃ k kid, l[k]? = some kid ∧ s ∈ rwalk kid (p + sumW ((l.take k).map Rf.t)) (path ++ [((j + k : Nat) : Int)])
  | [], p, path, j => by simp [rwalks]
  | r :: l, p, path, j => by
    simp only [rwalks, List.mem_append, rwalks_mem l]
    constructor
    · rintro (h | ⟨k, kid, h1, h2⟩)
      · exact ⟨0, r, rfl, by simpa [sumW] using h⟩
      · refine ⟨k + 1, kid, by simpa using h1, ?_⟩
        simp only [List.take_succ_cons, List.map_cons, sumW]
        rw [show j + (k + 1) = j + 1 + k by omega, ← Int.add_assoc]
        exact h2
    · rintro ⟨k, kid, h1, h2⟩
      cases k with
      | zero => left; simp at h1; subst h1; simpa [sumW] using h2
      | succ k =>
        right
        refine ⟨k, kid, by simpa using h1, ?_⟩
        simp only [List.take_succ_cons, List.map_cons, sumW] at h2
        rw [show j + (k + 1) = j + 1 + k by omega, ← Int.add_assoc] at h2
        exact h2

/-- a leaf that is told and holds a: the way leads there -/
theorem rwalk_to (hF : FOk w s0 s1 L) : ∀ r : Rf, r ∈ L → ∀ (p : Int) (path : List Int) (s : Sp), s ∈ rwalk r p path → s.r.t.kd = 1 → s.at_ ≤ a → a < s.at_ + s.r.t.wd →
    p ≤ a ∧ a < p + r.t.wd ∧ ∃ st, RTo a r p st s.r s.at_ ∧ s.path = path ++ idx st := by
  refine Rf.ind fun r ih hr p path s hs hk h1 h2 => ?_
  rw [rwalk_eq] at hs
  rcases List.mem_cons.1 hs with rfl | hs
  · exact ⟨h1, h2, [], .leaf hk, by simp [idx]⟩
  · obtain ⟨k, kid, hkid, hs⟩ := (rwalks_mem _ _ _ _).1 hs
    have hkm := List.mem_of_getElem? hkid
    obtain ⟨g1, g2, st, g3, g4⟩ := ih kid hkm (hF.mem hr hkm) _ _ s hs hk h1 h2
    have ha := sums_take hF hr k
    have hb := sums_take hF hr (k + 1)
    have e1 : sumW ((r.kids.take (k + 1)).map Rf.t) = sumW ((r.kids.take k).map Rf.t) + kid.t.wd := by rw [rf_take_succ hkid, List.map_append]; exact sumW_snoc _ _
    have hrk : r.t.kd ≠ 1 := fun h => by
      have h3 := ((hF.one r hr).ok.nums.leaf h).1
      have h4 := hF.klen hr
      rw [h3] at h4
      have : r.kids = [] := List.eq_nil_of_length_eq_zero (by simpa using h4.symm)
      rw [this] at hkid; simp at hkid
    refine ⟨by omega, by omega, _, .step hrk hkid g1 g2 g3, ?_⟩
    rw [g4]; simp [idx]

theorem RTo.mem (hF : FOk w s0 s1 L) {r c : Rf} {p q : Int} {st : List Stp} (h : RTo a r p st c q) (path : List Int) : (⟨c, q, path ++ idx st⟩ : Sp) ∈ rwalk r p path := by
  induction h generalizing path with
  | leaf hk => rw [rwalk_eq]; simp [idx]
  | @step r c kid p q st k hk h1 h2 h3 _ ih =>
    rw [rwalk_eq]
    refine List.mem_cons_of_mem _ ((rwalks_mem _ _ _ _).2 ⟨k, kid, h1, ?_⟩)
    have := ih (path ++ [((0 + k : Nat) : Int)])
    simpa [idx] using this
theorem RTo.holds {r c : Rf} {p q : Int} {st : List Stp} (h : RTo a r p st c q) : p ≤ a → a < p + r.t.wd → c.t.kd = 1 ∧ q ≤ a ∧ a < q + c.t.wd := by
  induction h with
  | leaf hk => intro h1 h2; exact ⟨hk, h1, h2⟩
  | step hk h1 h2 h3 _ ih => intro _ _; exact ih h2 h3
theorem RTo.det (hF : FOk w s0 s1 L) {r c c' : Rf} {p q q' : Int} {st st' : List Stp} (h : RTo a r p st c q) : r ∈ L → RTo a r p st' c' q' → st = st' ∧ c = c' ∧ q = q' := by
  induction h generalizing c' q' st' with
  | leaf hk =>
    intro _ h'
    cases h' with
    | leaf _ => exact ⟨rfl, rfl, rfl⟩
    | step hk' => exact absurd hk hk'
  | @step r c kid p q st k hk h1 h2 h3 _ ih =>
    intro hr h'
    cases h' with
    | leaf hk' => exact absurd hk' hk
    | @step _ _ kid' _ _ st2 k' _ g1 g2 g3 g4 =>
      have mono : ∀ i j, i < j → ∀ x, r.kids[i]? = some x → sumW ((r.kids.take i).map Rf.t) + x.t.wd ≤ sumW ((r.kids.take j).map Rf.t) := by
        intro i j hij x hx
        have e1 : sumW ((r.kids.take (i + 1)).map Rf.t) = sumW ((r.kids.take i).map Rf.t) + x.t.wd := by rw [rf_take_succ hx, List.map_append]; exact sumW_snoc _ _
        have e2 : ∀ d, sumW ((r.kids.take (i + 1)).map Rf.t) ≤ sumW ((r.kids.take (i + 1 + d)).map Rf.t) := by
          intro d
          induction d with
          | zero => exact Int.le_refl _
          | succ d ihd =>
            rcases Nat.lt_or_ge (i + 1 + d) r.kids.length with hlt | hge
            · have hy : r.kids[i + 1 + d]? = some r.kids[i + 1 + d] := List.getElem?_eq_getElem hlt
              have e3 : sumW ((r.kids.take (i + 1 + d + 1)).map Rf.t) = sumW ((r.kids.take (i + 1 + d)).map Rf.t) + (r.kids[i + 1 + d]).t.wd := by rw [rf_take_succ hy, List.map_append]; exact sumW_snoc _ _
              have := (hF.tt (hF.mem hr (List.mem_of_getElem? hy))).2.2.1
              rw [← Nat.add_assoc, e3]; omega
            · rw [← Nat.add_assoc, List.take_of_length_le (show r.kids.length ≤ i + 1 + d + 1 by omega)]
              rw [List.take_of_length_le hge] at ihd
              exact ihd
        have := e2 (j - (i + 1))
        rw [show i + 1 + (j - (i + 1)) = j by omega] at this
        omega
      have hkk : k = k' := by
        rcases Nat.lt_trichotomy k k' with hlt | he | hlt
        · have := mono k k' hlt kid h1; omega
        · exact he
        · have := mono k' k hlt kid' g1; omega
      subst hkk
      rw [h1] at g1
      have hkid : kid = kid' := by simpa using g1
      subst hkid
      obtain ⟨rfl, rfl, rfl⟩ := ih (hF.mem hr (List.mem_of_getElem? h1)) g4
      exact ⟨rfl, rfl, rfl⟩
end
end Go.Proofs.Ytpglmeeledmkoaa
