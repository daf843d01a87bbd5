/- The table's steps as one: every operation answers as its law says, on both sides. -/
import Derived.Test.YtkdbfjomjlhfbaaR23
namespace Go.Proofs.Ytkdbfjomjlhfbaa
open Go.Vc

def newS (xs : List Int) : Oc := if xs.length > 16777216 then .error 2 else .ok xs
def cutS (xs : List Int) (x y : Int) : Oc := if 0 ≤ x ∧ x ≤ y ∧ y ≤ (xs.length : Int) then .ok ((xs.drop x.toNat).take (y.toNat - x.toNat)) else .error 3
def splS (xs : List Int) (x y : Int) (ys : List Int) : Oc :=
  if x < 0 ∨ y < 0 ∨ x > (xs.length : Int) ∨ y > (xs.length : Int) - x then .error 3
  else if xs.length - y.toNat + ys.length > 16777216 then .error 2 else .ok (xs.take x.toNat ++ (ys ++ xs.drop (x.toNat + y.toNat)))

section
variable {F : Ta} {w : World}
theorem New_X {v : Value} {n : Nat} {xs : List Int} (hI : TI w F) (hv : RdV w 1 v n (bv xs)) (hB : BR xs) (hn : n ≤ 10000000000) : Calls Try.prog 13 #[v] w (RpX F (newS xs) w) := by
  have hl : xs.length = n := by have := hv.len; simpa using this
  unfold newS
  by_cases h : n > 16777216
  · rw [if_pos (by omega)]
    exact (@New_long F.Z _ _ _ _ hv hB h hn).mono fun e w' h => .no h (.inl rfl)
  · rw [if_neg (by omega)]
    exact (@New_any F.Z _ _ _ _ hv hB h hI.zb).mono fun e w' h => .ok h
theorem rNew_X {v : Value} {n : Nat} {xs : List Int} (hI : TI w F) (hv : RdV w 1 v n (bv xs)) (hn : n ≤ 10000000000) : Calls Try.prog 58 #[v] w (RfX F (newS xs) w) := by
  have hl : xs.length = n := by have := hv.len; simpa using this
  unfold newS
  by_cases h : n > 16777216
  · rw [if_pos (by omega)]
    exact (@rNew_long F.Z _ _ _ _ hv h (by omega)).mono fun e w' h => .no h (.inl rfl)
  · rw [if_neg (by omega)]
    exact (@rNew_any F.Z _ _ _ _ hv h).mono fun e w' h => .ok hI h (by omega)
theorem Cut_X {b : Nat} {o : Option Nd} (h : RpT F w b o) (x y : Int) : Calls Try.prog 20 #[Pv b, I6 x, I6 y] w (RpX F (cutS (obs o) x y) w) := by
  unfold cutS
  by_cases hc : 0 ≤ x ∧ x ≤ y ∧ y ≤ ((obs o).length : Int)
  · rw [if_pos hc]
    obtain ⟨i, rfl⟩ : ∃ i : Nat, x = (i : Int) := ⟨x.toNat, by omega⟩
    obtain ⟨j, rfl⟩ : ∃ j : Nat, y = (j : Int) := ⟨y.toNat, by omega⟩
    exact (@Cut_any F.Z _ _ _ h i j ⟨by omega, by simp only [on]; omega⟩).mono fun e w' h => .ok h
  · rw [if_neg hc]
    exact (@Cut_no F.Z _ _ _ h _ _ hc).mono fun e w' h => .no h (.inr rfl)
theorem rCut_X {c : Nat} {v : Value} {xs : List Int} (hI : TI w F) (h : RfT F w c v xs) (x y : Int) : Calls Try.prog 61 #[Pv c, I6 x, I6 y] w (RfX F (cutS xs x y) w) := by
  unfold cutS
  have hl := h.2.2.2
  by_cases hc : 0 ≤ x ∧ x ≤ y ∧ y ≤ (xs.length : Int)
  · rw [if_pos hc]
    obtain ⟨i, rfl⟩ : ∃ i : Nat, x = (i : Int) := ⟨x.toNat, by omega⟩
    obtain ⟨j, rfl⟩ : ∃ j : Nat, y = (j : Int) := ⟨y.toNat, by omega⟩
    exact (@rCut_any F.Z _ _ _ _ _ h.1 h.2.1 hl i j ⟨by omega, by omega⟩).mono fun e w' h => .ok hI h (by simp; omega)
  · rw [if_neg hc]
    exact (@rCut_no F.Z _ _ _ _ _ h.1 h.2.1 hl _ _ hc).mono fun e w' h => .no h (.inr rfl)
theorem Cat_X {b b' : Nat} {o o' : Option Nd} (h : RpT F w b o) (h' : RpT F w b' o') (hl : (obs o).length + (obs o').length ≤ 16777216) : Calls Try.prog 18 #[Pv b, Pv b'] w (RpX F (.ok (obs o ++ obs o')) w) :=
  (@Cat_any F.Z _ _ _ _ _ h h' (by simp only [on]; omega)).mono fun e w' h => .ok h
theorem rCat_X {c c' : Nat} {v v' : Value} {xs ys : List Int} (hI : TI w F) (h : RfT F w c v xs) (h' : RfT F w c' v' ys) (hl : xs.length + ys.length ≤ 16777216) : Calls Try.prog 63 #[Pv c, Pv c'] w (RfX F (.ok (xs ++ ys)) w) :=
  (@rCat_any F.Z _ _ _ _ _ h.1 h.2.1 h.2.2.2 _ _ _ _ h'.1 h'.2.1 h'.2.2.2 (by omega)).mono fun e w' h => .ok hI h (by rw [List.length_append]; exact hl)
theorem Spl_X {b : Nat} {o : Option Nd} {v : Value} {n : Nat} {ys : List Int} (h : RpT F w b o) (hv : RdV w 1 v n (bv ys)) (hB : BR ys) (hn : n ≤ 10000000000) (x y : Int) : Calls Try.prog 23 #[Pv b, I6 x, I6 y, v] w (RpX F (splS (obs o) x y ys) w) := by
  have hl : ys.length = n := by have := hv.len; simpa using this
  have ho : on o = (obs o).length := rfl
  unfold splS
  by_cases hc : x < 0 ∨ y < 0 ∨ x > ((obs o).length : Int) ∨ y > ((obs o).length : Int) - x
  · rw [if_pos hc]
    have key : Calls Try.prog 23 #[Pv b, I6 x, I6 y, v] w (RpN w 3) := by
      by_cases h1 : x < 0
      · exact @Splice_0 F.Z _ _ _ h _ _ _ hv hB hn _ _ h1
      · by_cases h2 : y < 0
        · exact @Splice_1 F.Z _ _ _ h _ _ _ hv hB hn _ _ ⟨by omega, h2⟩
        · by_cases h3 : x > (on o : Int)
          · exact @Splice_2 F.Z _ _ _ h _ _ _ hv hB hn _ _ ⟨by omega, by omega, h3⟩
          · exact @Splice_3 F.Z _ _ _ h _ _ _ hv hB hn _ _ ⟨by omega, by omega, by omega, by omega⟩
    exact key.mono fun e w' h => .no h (.inr rfl)
  · rw [if_neg hc]
    obtain ⟨i, rfl⟩ : ∃ i : Nat, x = (i : Int) := ⟨x.toNat, by omega⟩
    obtain ⟨d, rfl⟩ : ∃ d : Nat, y = (d : Int) := ⟨y.toNat, by omega⟩
    rw [Int.toNat_natCast, Int.toNat_natCast]
    by_cases h2 : (obs o).length - d + ys.length > 16777216
    · rw [if_pos h2]
      exact (@Splice_long F.Z _ _ _ h _ _ _ hv hB hn i d (by omega) (by omega)).mono fun e w' h => .no h (.inl rfl)
    · rw [if_neg h2]
      exact (@Splice_any F.Z _ _ _ h _ _ _ hv hB hn i d (by omega) (by omega)).mono fun e w' h => .ok h
theorem rSpl_X {c : Nat} {v u : Value} {m : Nat} {xs ys : List Int} (hI : TI w F) (h : RfT F w c v xs) (hu : RdV w 1 u m (bv ys)) (hm : m ≤ 10000000000) (x y : Int) : Calls Try.prog 64 #[Pv c, I6 x, I6 y, u] w (RfX F (splS xs x y ys) w) := by
  have hl : ys.length = m := by have := hu.len; simpa using this
  have hn := h.2.2.2
  unfold splS
  by_cases hc : x < 0 ∨ y < 0 ∨ x > (xs.length : Int) ∨ y > (xs.length : Int) - x
  · rw [if_pos hc]
    exact (@rSplice_no F.Z _ _ _ _ _ h.1 h.2.1 hn _ _ _ hu (by omega) _ _ hc).mono fun e w' h => .no h (.inr rfl)
  · rw [if_neg hc]
    obtain ⟨i, rfl⟩ : ∃ i : Nat, x = (i : Int) := ⟨x.toNat, by omega⟩
    obtain ⟨d, rfl⟩ : ∃ d : Nat, y = (d : Int) := ⟨y.toNat, by omega⟩
    rw [Int.toNat_natCast, Int.toNat_natCast]
    by_cases h2 : xs.length - d + ys.length > 16777216
    · rw [if_pos h2]
      exact (@rSplice_long F.Z _ _ _ _ _ h.1 h.2.1 hn _ _ _ hu (by omega) i d (by omega) (by omega)).mono fun e w' h => .no h (.inl rfl)
    · rw [if_neg h2]
      exact (@rSplice_any F.Z _ _ _ _ _ h.1 h.2.1 hn _ _ _ hu (by omega) i d (by omega) (by omega)).mono fun e w' h => .ok hI h (by simp; omega)

/-! ### the table's own -/
@[reducible] def Ta.buf (F : Ta) (g m : Nat) : Ta := { F with bb := some ⟨g, 0, none⟩, bn := m }
theorem oa_ob {a : Option Addr} {n c x : Nat} : x ∈ ob (.slice a n c) ↔ x ∈ oa a := by rw [ob_oa]
theorem TI.buf {w' : World} {g m n : Nat} {ys : List Value} (h : TI w F) (hm : m ≤ 100000000000) (hB : Blk w' F.t 46 #[.slice F.pb F.L.length F.pc, .slice F.qb F.L.length F.qc, .slice (some ⟨g, 0, none⟩) m m]) (hO : OwnR w' 5 1 g m n ys)
    {M : List Nat} (hE : Ext M w w') (hM : ∀ x ∈ M, x = F.t ∨ x ∈ oa F.bb) (hg : g ∈ oa F.bb ∨ w.heap.size ≤ g) : TS w F w' (F.buf g m) := by
  obtain ⟨ys0, hB0⟩ := h.B
  have hE' : Ext F.M w w' := hE.mono fun b hb => by
    rcases hM b hb with h1 | h1
    · simp [Ta.M, h1]
    · simp [Ta.M, h1]
  have hm' : ∀ x ∈ (F.buf g m).M, x ∈ F.M ∨ w.heap.size ≤ x := fun x hx => by
    simp only [Ta.M, Ta.buf, oa, List.mem_cons, List.mem_append] at hx ⊢
    rcases hx with hx | (hx | hx) | hx
    · exact .inl (.inl hx)
    · exact .inl (.inr (.inl (.inl hx)))
    · exact .inl (.inr (.inl (.inr hx)))
    · have hx : x = g := by simpa using hx
      subst hx
      exact hg.imp (fun h => .inr (.inr h)) id
  have hPM : ∀ x ∈ ob (.slice F.pb F.L.length F.pc), x ∉ M := fun x hx hm => by
    rcases hM x hm with h1 | h1
    · exact h.P.ne h.f (by decide) x hx h1.symm
    · exact h.P.disj hB0 (by decide) x hx (oa_ob.2 h1)
  have hQM : ∀ x ∈ ob (.slice F.qb F.L.length F.qc), x ∉ M := fun x hx hm => by
    rcases hM x hm with h1 | h1
    · exact h.R.ne h.f (by decide) x hx h1.symm
    · exact h.R.disj hB0 (by decide) x hx (oa_ob.2 h1)
  have hP := h.P.ext hE hPM
  have hR := h.R.ext hE hQM
  obtain ⟨zs, hO2⟩ := hO.any (k := m) (Nat.le_refl _)
  have hT : TM w F w' (F.buf g m) := ⟨h, fun x hx => by
    simp only [Ta.M, Ta.buf, oa, List.mem_cons, List.mem_append] at hx
    rcases hx with hx | (hx | hx) | hx
    · rw [hx]; exact hB.lt
    · exact hP.lie x (oa_ob.2 hx)
    · exact hR.lie x (oa_ob.2 hx)
    · have hx : x = g := by simpa using hx
      rw [hx]; exact hO.lt, hE', hm'⟩
  exact ⟨⟨hB, hP, hR, ⟨zs, hO2.v⟩, hm, h.ln, fun e he => (h.p e he).ts hT, fun e he => (h.q e he).ts hT⟩, hE', hm', rfl, Nat.le_refl _⟩
theorem lend_T {w0 : World} {v : Value} {n : Nat} {xs : List Int} (hT : TB w0 w F) (h0 : RdV w0 1 v n (bv xs)) (hn : n ≤ 10000000000) :
    Calls Try.prog 57 #[Pv F.t, v] w fun e w' => ∃ g m, e = .returned (.slice (some ⟨g, 0, none⟩) n m) ∧ TS w F w' (F.buf g m) ∧ OwnR w' 5 1 g m (n + 5) (bv (xs ++ marks 5)) := by
  have ht0 : w0.heap.size ≤ F.t := hT.m _ (by simp [Ta.M])
  have hbn := hT.i.bn
  by_cases h : F.bn < n + 5
  · refine (@lend_new F.Z _ _ _ _ _ _ _ _ _ h0 ht0 (hT.rd h0) hn (by omega) _ hT.i.f h).mono fun e w' ⟨g, m, h1, h2, h3, h4, h5, h6⟩ => ?_
    exact ⟨g, m, h1, hT.i.buf (by omega) h2 h3 h6 (fun x hx => .inl (by simpa using hx)) (.inr h4), h3⟩
  · obtain ⟨ys, hB⟩ := hT.i.B
    obtain ⟨g, cap, h1, h2⟩ := hB.some_of_pos (by omega)
    simp only [Value.slice.injEq, true_and] at h1
    obtain ⟨hb, hc⟩ := h1
    subst hc
    have hf := hT.i.f
    rw [hb] at hf
    refine (@lend_keep F.Z _ _ _ _ _ _ _ _ _ h0 ht0 (hT.rd h0) hn (by omega) _ hf _ (h2.take (k := n + 5) (by omega))).mono fun e w' ⟨h1, h3, h4, h6⟩ => ?_
    exact ⟨g, _, h1, hT.i.buf (by omega) h3 h4 h6 (fun x hx => .inr (by rw [hb]; simpa [oa] using hx)) (.inl (by rw [hb]; simp [oa])), h4⟩
theorem Back_T {w0 : World} {v : Value} {g m n : Nat} {xs : List Int} (hT : TB w0 w (F.buf g m)) (hO : OwnR w 5 1 g m (n + 5) (bv (xs ++ marks 5))) (h0 : RdV w0 1 v n (bv xs)) (hn : n ≤ 10000000000) :
    Calls Try.prog 59 #[.slice (some ⟨g, 0, none⟩) n m, v] w fun e w' => e = .returned (.bool true) ∧ TS w (F.buf g m) w' (F.buf g m) := by
  have hg : g ∈ oa (F.buf g m).bb := by simp [Ta.buf, oa]
  refine (@Back_any F.Z _ _ _ _ _ _ _ h0 (hT.m g (by simp only [Ta.M, List.mem_cons, List.mem_append]; exact .inr (.inr hg))) hO (hT.rd h0) hn).mono fun e w' ⟨h1, ⟨ys, h2⟩, h3⟩ => ⟨h1, ?_⟩
  obtain ⟨zs, hB⟩ := hT.i.B
  have hft : F.t ∉ [g] := fun he => hB.ne hT.i.f (by decide) g (oa_ob.2 hg) (by simpa [Ta.buf] using he)
  exact hT.i.buf (F := F.buf g m) hT.i.bn (hT.i.f.ext h3 hft) h2 h3 (fun x hx => by
    have hxg : x = g := by simpa using hx
    subst hxg
    exact .inr hg) (.inl hg)
/-- how many ropes an outcome adds -/
def lenS : Oc → Nat
  | .ok _ => 1
  | .error _ => 0
theorem add_T {p q : Value} {k j : Int} {r : Oc} (h : TI w F) (hl : F.L.length < 300) (hp : RpD F w p k r) (hq : RfD F w q j r) :
    Calls Try.prog 60 #[Pv F.t, p, I6 k, q, I6 j] w fun e w' => e = .returned (.bool true) ∧ ∃ F', TS w F w' F' ∧ F'.L.length = F.L.length + lenS r := by
  cases r with
  | error i =>
    obtain ⟨rfl, rfl, hk⟩ := hp
    obtain ⟨rfl, rfl, _⟩ := hq
    exact (@add_err F.Z _ _ hk _).mono fun e w' ⟨h1, h2⟩ => ⟨h1, F, by rw [h2]; exact TS.refl h, rfl⟩
  | ok xs =>
    obtain ⟨b, o, rfl, rfl, hp, ho⟩ := hp
    obtain ⟨c, v, rfl, rfl, hq⟩ := hq
    refine (@add_ok F.Z _ _ _ _ _ _ _ _ _ _ _ _ h.f h.P h.R (by omega)).mono fun e w' ⟨ga, ca, gb, cb, h1, h2, h3, h4, h5, h6, h7⟩ => ⟨h1, ⟨F.t, some ⟨ga, 0, none⟩, ca, some ⟨gb, 0, none⟩, cb, F.bb, F.bn, F.L ++ [⟨b, o, c, v⟩]⟩, ?_, by simp [lenS]⟩
    obtain ⟨ys0, hB0⟩ := h.B
    have hE' : Ext F.M w w' := h5.mono fun b hb => by
      simp only [Ta.M, List.mem_cons, List.mem_append] at hb ⊢
      rcases hb with hb | hb
      · exact .inl hb
      · exact .inr (.inl hb)
    have hB : OwnV w' 5 1 (.slice F.bb F.bn F.bn) F.bn ys0 := hB0.ext h5 fun x hx hm => by
      simp only [List.mem_cons, List.mem_append] at hm
      rcases hm with hm | hm | hm
      · exact hB0.ne h.f (by decide) x hx hm.symm
      · exact hB0.disj h.P (by decide) x hx (oa_ob.2 hm)
      · exact hB0.disj h.R (by decide) x hx (oa_ob.2 hm)
    have hm' : ∀ x ∈ (Ta.mk F.t (some ⟨ga, 0, none⟩) ca (some ⟨gb, 0, none⟩) cb F.bb F.bn (F.L ++ [⟨b, o, c, v⟩])).M, x ∈ F.M ∨ w.heap.size ≤ x := fun x hx => by
      simp only [Ta.M, oa, List.mem_cons, List.mem_append, List.not_mem_nil, or_false] at hx ⊢
      rcases hx with hx | (hx | hx) | hx
      · exact .inl (.inl hx)
      · subst hx; exact h6.imp (fun h => .inr (.inl (.inl h))) id
      · subst hx; exact h7.imp (fun h => .inr (.inl (.inr h))) id
      · exact .inl (.inr (.inr hx))
    have hT : TM w F w' (Ta.mk F.t (some ⟨ga, 0, none⟩) ca (some ⟨gb, 0, none⟩) cb F.bb F.bn (F.L ++ [⟨b, o, c, v⟩])) := ⟨h, fun x hx => by
      simp only [Ta.M, oa, List.mem_cons, List.mem_append, List.not_mem_nil, or_false] at hx
      rcases hx with hx | (hx | hx) | hx
      · rw [hx]; exact h2.lt
      · rw [hx]; exact h3.lt
      · rw [hx]; exact h4.lt
      · exact hB.lie x (oa_ob.2 hx), hE', hm'⟩
    have hlen : (F.L ++ [(⟨b, o, c, v⟩ : En)]).length = F.L.length + 1 := by simp
    refine ⟨⟨?_, ?_, ?_, ⟨ys0, hB⟩, h.bn, by simp only [hlen]; omega, fun e he => ?_, fun e he => ?_⟩, hE', hm', rfl, by simp⟩
    · simp only [hlen]; exact h2
    · simp only [hlen, List.map_append]; exact h3.v
    · simp only [hlen, List.map_append]; exact h4.v
    · rcases List.mem_append.1 he with he | he
      · exact (h.p e he).ts hT
      · have he : e = ⟨b, o, c, v⟩ := by simpa using he
        subst he
        exact hp.ts hT
    · rcases List.mem_append.1 he with he | he
      · exact (h.q e he).ts hT
      · have he : e = ⟨b, o, c, v⟩ := by simpa using he
        subst he
        simp only [ho]
        exact hq.ts hT
end
end Go.Proofs.Ytkdbfjomjlhfbaa
