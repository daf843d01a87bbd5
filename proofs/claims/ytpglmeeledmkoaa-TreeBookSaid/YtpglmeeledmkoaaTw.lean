/- A cursor of the program beside the document's: one step of both. -/
import Derived.Test.YtpglmeeledmkoaaT35
namespace Go.Proofs.Ytpglmeeledmkoaa
open Go.Vc

/-- the document's cursor -/
structure Pc (w : World) (rc : Nat) (r : Rf) (st : List Stp) (pb : Option Addr) (pc : Nat) : Prop where
  blk : Blk w rc 85 #[.pointer (some ⟨r.rb, 0, none⟩), .slice pb st.length pc]
  row : OwnV w 3 1 (.slice pb st.length pc) st.length (ints (idx st))

section
variable {M : List Nat} {W0 w w' : World} {d top nb rc : Nat} {r : Rf} {st : List Stp} {p : Int} {bs pb : Option Addr} {cap pc sb : Nat}
theorem Pc.ext0 (h : Pc w rc r st pb pc) (hE : Ext [] w w') : Pc w' rc r st pb pc := ⟨h.blk.ext hE (by simp), h.row.ext hE (by simp)⟩
theorem Pc.mvc {st2 : List Stp} (h : Pc w rc r st pb pc) (hc : Cu M W0 w d top st2 nb p bs cap) (hE : Ext (d :: oa bs) w w') : Pc w' rc r st pb pc :=
  ⟨h.blk.ext hE (hc.notin h.blk (by decide) (by decide)), h.row.ext hE (fun x hx hm => by
    rcases List.mem_cons.1 hm with rfl | hm
    · exact h.row.ne hc.blk (by decide) _ hx rfl
    · exact h.row.disj hc.row (by decide) x hx (by rw [ob_oa]; exact hm))⟩
theorem Cu.to {t : Tr} {a : Int} (h : Cu M W0 w d t.b st nb p bs cap) (ht : t.Ok w sb) (hq : 0 ≤ a ∧ a < t.wd) :
    Calls Try.prog 38 #[.pointer (some ⟨d, 0, none⟩), .int .i64 a] w fun e w' => e = .returned (.bool true) ∧ ∃ st' c p' bs' cap', ToR a t 0 st' c p' ∧ Cu M W0 w' d t.b st' c.b p' bs' cap' ∧ Ext (d :: oa bs) w w' := by
  refine (To_in ht h.blk hq).mono ?_
  rintro e w' ⟨st', c, p', bs', cap', h1, h2, h3, h4, h5, h6, _⟩
  exact ⟨h1, st', c, p', bs', cap', h2, h.turn (h5.mono (by simp)) h3 h4 (fun x hx => .inr (h6 x (by rw [ob_oa]; exact hx))), h5.mono (by simp)⟩
end

/-- what a step of both leaves -/
def Fin (w : World) (cb rc : Nat) (r : Rf) (bs pb : Option Addr) (w' : World) : Prop :=
  ∃ st' q' p' bs' cap' pb' pc', JW r st' q' p' ∧ Cu (cb :: rc :: oa bs) w w' cb r.t.b st' q'.t.b p' bs' cap' ∧ Pc w' rc r st' pb' pc' ∧ ∀ x ∈ oa pb', x ∈ oa pb ∨ w.heap.size ≤ x

section
variable {w : World} {s0 s1 cb rc cap pc : Nat} {L : List Rf} {r q : Rf} {st : List Stp} {p : Int} {bs pb : Option Addr}

theorem Moved_any (hK : ∀ w2, Ext (cb :: rc :: oa bs) w w2 → FOk w2 s0 s1 L) (hr : r ∈ L) (hj : JW r st q p) (hc : Cu (cb :: rc :: oa bs) w w cb r.t.b st q.t.b p bs cap) (hp : Pc w rc r st pb pc) (wh kd ai : Int) :
    Calls Try.prog 47 #[.pointer (some ⟨cb, 0, none⟩), .pointer (some ⟨rc, 0, none⟩), .agg #[.int .i64 wh, .int .i64 kd, .int .i64 ai]] w fun e w' => e = .returned (.bool true) ∧ Fin w cb rc r bs pb w' := by
  have hM : ∀ x ∈ cb :: oa bs, x < w.heap.size := fun x hx => by
    rcases List.mem_cons.1 hx with rfl | hx
    · exact hc.blk.lt
    · exact hc.row.lie x (by rw [ob_oa]; exact hx)
  have hF : ∀ {w2}, Ext [] w w2 → FOk w2 s0 s1 L := fun h => hK _ h.of0
  have hFw := hF (Ext.refl _ _)
  have hqm := hj.mem hFw hr
  have hbd := hj.bd hFw hr
  have hqt := hFw.tt hqm
  have hrt := hFw.tt hr
  have hqo : ∀ {w2}, Ext [] w w2 → q.t.Ok w2 (sOf s0 s1 q.k) := fun h => ((hF h).one q hqm).ok
  have hql := kids_le (hqo (Ext.refl _ _))
  have hqk := kt_len hFw hqm
  -- the end of a step of both
  have finNo : ∀ {w2 w3 bs' cap'}, Cu (cb :: rc :: oa bs) w w2 cb r.t.b st q.t.b p bs' cap' → Pc w2 rc r st pb pc → Ext [] w2 w3 → Fin w cb rc r bs pb w3 := fun h1 h2 hE =>
    ⟨st, q, p, _, _, _, _, hj, h1.mv0 hE, h2.ext0 hE, fun x hx => .inl hx⟩
  have finYes : ∀ {w2 w3 : World} {bs' : Option Addr} {cap' : Nat} {st' : List Stp} {q' : Rf} {p' : Int} {pb' : Option Addr} {pc' : Nat}, JW r st' q' p' → Cu (cb :: rc :: oa bs) w w2 cb r.t.b st' q'.t.b p' bs' cap' → Pc w2 rc r st pb pc → Ext [rc] w2 w3 →
      Blk w3 rc 85 #[.pointer (some ⟨r.rb, 0, none⟩), .slice pb' st'.length pc'] → OwnV w3 3 1 (.slice pb' st'.length pc') st'.length (ints (idx st')) → (∀ x ∈ oa pb', x ∈ oa pb ∨ w2.heap.size ≤ x) → Fin w cb rc r bs pb w3 := fun h0 h1 h2 hE h3 h4 h5 =>
    ⟨_, _, _, _, _, _, _, h0, h1.store hE h2.blk (by decide) (by decide) (.inl (by simp)), ⟨h3, h4⟩, fun x hx => (h5 x hx).imp id (Nat.le_trans h1.ext.size)⟩
  have fr1 : ∀ {g m : Nat}, m ≤ g → ∀ x ∈ oa (some ⟨g, 0, none⟩), x ∈ oa pb ∨ m ≤ x := fun {g m} h x hx => by
    have hx : x = g := by simpa [oa] using hx
    rw [hx]; exact .inr h
  by_cases h1 : kd = 1
  · subst h1
    by_cases a0 : ai < 0
    · refine Mv_1 (b := false) (MM := cb :: oa bs) (X := fun w' => Cu (cb :: rc :: oa bs) w w' cb r.t.b st q.t.b p bs cap ∧ Pc w' rc r st pb pc) hM (fun w1 hE => ?_) (fun w2 ⟨hc2, hp2⟩ => ?_)
      · exact (Down_lt (hqo hE) (hc.mv0 hE).blk a0).mono fun e w' ⟨h1, h2⟩ => ⟨h1, by subst h2; exact ⟨hc.mv0 hE, hp.ext0 hE⟩, by subst h2; exact Ext.refl _ _⟩
      · exact (RDown_lt (hK _ hc2.ext) hr hj hp2.blk hp2.row a0).mono fun e w' ⟨h1, h2⟩ => ⟨h1, finNo hc2 hp2 h2⟩
    · by_cases a1 : (q.t.kids.length : Int) ≤ ai
      · refine Mv_1 (b := false) (MM := cb :: oa bs) (X := fun w' => Cu (cb :: rc :: oa bs) w w' cb r.t.b st q.t.b p bs cap ∧ Pc w' rc r st pb pc) hM (fun w1 hE => ?_) (fun w2 ⟨hc2, hp2⟩ => ?_)
        · exact (Down_ge (hqo hE) (hc.mv0 hE).blk ⟨by omega, a1⟩).mono fun e w' ⟨h1, h2⟩ => ⟨h1, by subst h2; exact ⟨hc.mv0 hE, hp.ext0 hE⟩, by subst h2; exact Ext.refl _ _⟩
        · exact (RDown_ge (hK _ hc2.ext) hr hj hp2.blk hp2.row ⟨by omega, by omega⟩).mono fun e w' ⟨h1, h2⟩ => ⟨h1, finNo hc2 hp2 h2⟩
      · obtain ⟨k, rfl⟩ : ∃ k : Nat, ai = k := ⟨ai.toNat, by omega⟩
        have hkl : k < q.kids.length := by omega
        obtain ⟨kid, hk⟩ : ∃ kid, q.kids[k]? = some kid := ⟨_, List.getElem?_eq_getElem hkl⟩
        have hj2 := JW.snoc hj hk
        rw [← kids_sum hFw hqm] at hj2
        refine Mv_1 (b := true) (MM := cb :: oa bs) (X := fun w' => (∃ bs' cap', Cu (cb :: rc :: oa bs) w w' cb r.t.b (st ++ [(q.t, (k : Int), p + sumW (q.t.kids.take k))]) kid.t.b (p + sumW (q.t.kids.take k)) bs' cap') ∧ Pc w' rc r st pb pc) hM (fun w1 hE => ?_) (fun w2 ⟨⟨_, _, hc2⟩, hp2⟩ => ?_)
        · exact ((hc.mv0 hE).down (hqo hE) (by omega) (by omega) (kt_at hFw hqm hk)).mono fun e w' ⟨h1, bs', cap', h2, h3⟩ => ⟨h1, ⟨⟨bs', cap', h2⟩, (hp.ext0 hE).mvc (hc.mv0 hE) h3⟩, h3⟩
        · exact (RDown_in (hK _ hc2.ext) hr hj hp2.blk hp2.row hkl).mono fun e w' ⟨g, c, h1, h2, h3, h4, h5⟩ => ⟨h1, finYes hj2 hc2 hp2 h4 (by simpa using h2) (by simpa [idx] using h3.v) (fr1 h5)⟩
  by_cases h2 : kd = 2
  · subst h2
    rcases hj.cases3 hFw hr with hs | ⟨st0, u, pu, k, hJ0, hku, hs, hpp, _⟩ | ⟨st0, u, pu, k, _, hJ0, hku, hs, hpp, _⟩
    · refine Mv_2 (b := false) (MM := cb :: oa bs) (X := fun w' => Cu (cb :: rc :: oa bs) w w' cb r.t.b st q.t.b p bs cap ∧ Pc w' rc r st pb pc) hM (fun w1 hE => ?_) (fun w2 ⟨hc2, hp2⟩ => ?_)
      · have hc1 : Cu (cb :: rc :: oa bs) w w1 cb r.t.b [] q.t.b p bs cap := by rw [← hs]; exact hc.mv0 hE
        exact hc1.up0.mono fun e w' ⟨h1, h2⟩ => ⟨h1, by subst h2; exact ⟨hc.mv0 hE, hp.ext0 hE⟩, by subst h2; exact Ext.refl _ _⟩
      · have hb := hp2.blk
        rw [hs] at hb
        exact (RUp_0 hb).mono fun e w' ⟨h1, h2⟩ => ⟨h1, by subst h2; exact finNo hc2 hp2 (Ext.refl _ _)⟩
    all_goals
      have hl : st.length = st0.length + 1 := by rw [hs]; simp
      refine Mv_2 (b := true) (MM := cb :: oa bs) (X := fun w' => Cu (cb :: rc :: oa bs) w w' cb r.t.b st0 u.t.b pu bs cap ∧ Pc w' rc r st pb pc) hM (fun w1 hE => ?_) (fun w2 ⟨hc2, hp2⟩ => ?_)
      · have hc1 : Cu (cb :: rc :: oa bs) w w1 cb r.t.b (st0 ++ [(u.t, ((k : Nat) : Int), p)]) q.t.b p bs cap := by rw [← hs]; exact hc.mv0 hE
        refine (hc1.up (by omega)).mono fun e w' ⟨h1, h2, h3⟩ => ⟨h1, ⟨?_, (hp.ext0 hE).mvc (hc.mv0 hE) h3⟩, h3⟩
        rw [hJ0.last] at h2; exact h2
      · have hb := hp2.blk
        have hv := hp2.row
        rw [hl] at hb hv
        have hv' : OwnV w2 3 1 (.slice pb (st0.length + 1) pc) (st0.length + 1) (ints (idx st0 ++ [((k : Nat) : Int)])) := by rw [hs] at hv; simpa [idx] using hv
        exact (RUp_1 hb hv' (by omega)).mono fun e w' ⟨h1, h2, h3, h4⟩ => ⟨h1, finYes hJ0 hc2 hp2 h4 h2 h3 fun x hx => .inl hx⟩
  by_cases h3 : kd = 3
  · subst h3
    rcases hj.cases3 hFw hr with hs | ⟨st0, u, pu, k, hJ0, hku, hs, hpp, hge⟩ | ⟨st0, u, pu, k, kid, hJ0, hku, hs, hpp, hk2⟩
    · refine Mv_3 (b := false) (MM := cb :: oa bs) (X := fun w' => Cu (cb :: rc :: oa bs) w w' cb r.t.b st q.t.b p bs cap ∧ Pc w' rc r st pb pc) hM (fun w1 hE => ?_) (fun w2 ⟨hc2, hp2⟩ => ?_)
      · have hc1 : Cu (cb :: rc :: oa bs) w w1 cb r.t.b [] q.t.b p bs cap := by rw [← hs]; exact hc.mv0 hE
        exact hc1.right0.mono fun e w' ⟨h1, h2, h3⟩ => ⟨h1, ⟨by rw [hs]; exact h2, (hp.ext0 hE).mvc (hc.mv0 hE) h3⟩, h3⟩
      · have hb := hp2.blk
        rw [hs] at hb
        exact (RBeside_0 hb).mono fun e w' ⟨h1, h2⟩ => ⟨h1, by subst h2; exact finNo hc2 hp2 (Ext.refl _ _)⟩
    all_goals
      have hum := hJ0.mem hFw hr
      have huo : ∀ {w2}, Ext [] w w2 → u.t.Ok w2 (sOf s0 s1 u.k) := fun h => ((hF h).one u hum).ok
      have hul := kids_le (huo (Ext.refl _ _))
      have hub := hJ0.bd hFw hr
      have hukl := kt_len hFw hum
      have hkk : k < u.kids.length := (List.getElem?_eq_some_iff.1 hku).1
      have hl : st.length = st0.length + 1 := by rw [hs]; simp
      have hut := hFw.tt hum
      have hlb := hJ0.last
    · refine Mv_3 (b := false) (MM := cb :: oa bs) (X := fun w' => Cu (cb :: rc :: oa bs) w w' cb r.t.b st q.t.b p bs cap ∧ Pc w' rc r st pb pc) hM (fun w1 hE => ?_) (fun w2 ⟨hc2, hp2⟩ => ?_)
      · have hc1 : Cu (cb :: rc :: oa bs) w w1 cb r.t.b (st0 ++ [(u.t, ((k : Nat) : Int), p)]) q.t.b p bs cap := by rw [← hs]; exact hc.mv0 hE
        exact (hc1.right_ge (k := k) (by omega) (huo hE) rfl (by omega) hge).mono fun e w' ⟨h1, h2, h3⟩ => ⟨h1, ⟨by rw [hs]; exact h2, (hp.ext0 hE).mvc (hc.mv0 hE) h3⟩, h3⟩
      · have hb := hp2.blk
        have hv := hp2.row
        rw [hl] at hb hv
        have hv' : OwnV w2 3 1 (.slice pb (st0.length + 1) pc) (st0.length + 1) (ints (idx st0 ++ [((k : Nat) : Int)])) := by rw [hs] at hv; simpa [idx] using hv
        exact (RBeside_ge (hK _ hc2.ext) hr hJ0 hb hv' (by omega) (by omega) ⟨by omega, by omega⟩).mono fun e w' ⟨h1, h2⟩ => ⟨h1, finNo hc2 hp2 h2⟩
    · have hj2 := JW.snoc hJ0 hk2
      rw [← kids_sum hFw hum] at hj2
      have hkk2 : k + 1 < u.kids.length := (List.getElem?_eq_some_iff.1 hk2).1
      refine Mv_3 (b := true) (MM := cb :: oa bs) (X := fun w' => (∃ bs' cap', Cu (cb :: rc :: oa bs) w w' cb r.t.b (st0 ++ [(u.t, ((k + 1 : Nat) : Int), pu + sumW (u.t.kids.take (k + 1)))]) kid.t.b (pu + sumW (u.t.kids.take (k + 1))) bs' cap') ∧ Pc w' rc r st pb pc) hM (fun w1 hE => ?_) (fun w2 ⟨⟨_, _, hc2⟩, hp2⟩ => ?_)
      · have hc1 : Cu (cb :: rc :: oa bs) w w1 cb r.t.b (st0 ++ [(u.t, ((k : Nat) : Int), p)]) q.t.b p bs cap := by rw [← hs]; exact hc.mv0 hE
        refine (hc1.right (k := k) (kid := kid.t) (by omega) (huo hE) rfl (by omega) (kt_at hFw hum hk2) (by omega)).mono fun e w' ⟨h1, bs', cap', h2, h3⟩ => ⟨h1, ⟨⟨bs', cap', ?_⟩, (hp.ext0 hE).mvc (hc.mv0 hE) h3⟩, h3⟩
        rw [hlb] at h2; exact h2
      · have hb := hp2.blk
        have hv := hp2.row
        rw [hl] at hb hv
        have hv' : OwnV w2 3 1 (.slice pb (st0.length + 1) pc) (st0.length + 1) (ints (idx st0 ++ [((k : Nat) : Int)])) := by rw [hs] at hv; simpa [idx] using hv
        exact (RBeside_in (hK _ hc2.ext) hr hJ0 hb hv' (by omega) (by omega) (j := k + 1) (by omega) hkk2).mono fun e w' ⟨g, c, h1, h2, h3, h4, h5⟩ => ⟨h1, finYes hj2 hc2 hp2 h4 (by simpa using h2) (by simpa [idx] using h3.v) (fr1 h5)⟩
  by_cases h4 : kd = 4
  · subst h4
    have hcs : st = [] ∨ ∃ st0 u pu k, JW r st0 u pu ∧ u.kids[k]? = some q ∧ st = st0 ++ [(u.t, ((k : Nat) : Int), p)] := by
      rcases hj.cases3 hFw hr with hs | ⟨st0, u, pu, k, hJ0, hku, hs, _⟩ | ⟨st0, u, pu, k, _, hJ0, hku, hs, _⟩
      · exact .inl hs
      · exact .inr ⟨st0, u, pu, k, hJ0, hku, hs⟩
      · exact .inr ⟨st0, u, pu, k, hJ0, hku, hs⟩
    rcases hcs with hs | ⟨st0, u, pu, k, hJ0, hku, hs⟩
    · refine Mv_4 (b := false) (MM := cb :: oa bs) (X := fun w' => Cu (cb :: rc :: oa bs) w w' cb r.t.b st q.t.b p bs cap ∧ Pc w' rc r st pb pc) hM (fun w1 hE => ?_) (fun w2 ⟨hc2, hp2⟩ => ?_)
      · have hc1 : Cu (cb :: rc :: oa bs) w w1 cb r.t.b [] q.t.b p bs cap := by rw [← hs]; exact hc.mv0 hE
        exact (Left_of (R := fun e w' => e = .returned (.bool false) ∧ w' = w1) (fun h => ⟨_, h.1⟩) (Beside_0 hc1.blk)).mono fun e w' ⟨h1, h2⟩ => ⟨h1, by subst h2; exact ⟨hc.mv0 hE, hp.ext0 hE⟩, by subst h2; exact Ext.refl _ _⟩
      · have hb := hp2.blk
        rw [hs] at hb
        exact (RBeside_0 hb).mono fun e w' ⟨h1, h2⟩ => ⟨h1, by subst h2; exact finNo hc2 hp2 (Ext.refl _ _)⟩
    · have hum := hJ0.mem hFw hr
      have huo : ∀ {w2}, Ext [] w w2 → u.t.Ok w2 (sOf s0 s1 u.k) := fun h => ((hF h).one u hum).ok
      have hul := kids_le (huo (Ext.refl _ _))
      have hub := hJ0.bd hFw hr
      have hukl := kt_len hFw hum
      have hkk : k < u.kids.length := (List.getElem?_eq_some_iff.1 hku).1
      have hl : st.length = st0.length + 1 := by rw [hs]; simp
      have hut := hFw.tt hum
      have hlb := hJ0.last
      rcases Nat.eq_zero_or_pos k with hk0 | hk0
      · refine Mv_4 (b := false) (MM := cb :: oa bs) (X := fun w' => Cu (cb :: rc :: oa bs) w w' cb r.t.b st q.t.b p bs cap ∧ Pc w' rc r st pb pc) hM (fun w1 hE => ?_) (fun w2 ⟨hc2, hp2⟩ => ?_)
        · have hc1 : Cu (cb :: rc :: oa bs) w w1 cb r.t.b (st0 ++ [(u.t, ((k : Nat) : Int), p)]) q.t.b p bs cap := by rw [← hs]; exact hc.mv0 hE
          exact (Left_of (R := fun e w' => e = .returned (.bool false) ∧ Ext [] w1 w') (fun h => ⟨_, h.1⟩)
            (Beside_lt (st := st0) (s := (u.t, ((k : Nat) : Int), p)) (by simpa using hc1.blk) (by simpa [ways_append, ways] using hc1.row) (by omega) (huo hE) (by simp only; omega) (by omega) (by simp only; omega))).mono fun e w' ⟨h1, h2⟩ => ⟨h1, ⟨(hc.mv0 hE).mv0 h2, (hp.ext0 hE).ext0 h2⟩, h2.of0⟩
        · have hb := hp2.blk
          have hv := hp2.row
          rw [hl] at hb hv
          have hv' : OwnV w2 3 1 (.slice pb (st0.length + 1) pc) (st0.length + 1) (ints (idx st0 ++ [((k : Nat) : Int)])) := by rw [hs] at hv; simpa [idx] using hv
          exact (RBeside_lt (hK _ hc2.ext) hr hJ0 hb hv' (by omega) (by omega) (by omega)).mono fun e w' ⟨h1, h2⟩ => ⟨h1, finNo hc2 hp2 h2⟩
      · obtain ⟨k', rfl⟩ : ∃ k', k = k' + 1 := ⟨k - 1, by omega⟩
        obtain ⟨kid, hk2⟩ : ∃ kid, u.kids[k']? = some kid := ⟨_, List.getElem?_eq_getElem (by omega)⟩
        have hj2 := JW.snoc hJ0 hk2
        rw [← kids_sum hFw hum] at hj2
        refine Mv_4 (b := true) (MM := cb :: oa bs) (X := fun w' => (∃ bs' cap', Cu (cb :: rc :: oa bs) w w' cb r.t.b (st0 ++ [(u.t, ((k' : Nat) : Int), pu + sumW (u.t.kids.take k'))]) kid.t.b (pu + sumW (u.t.kids.take k')) bs' cap') ∧ Pc w' rc r st pb pc) hM (fun w1 hE => ?_) (fun w2 ⟨⟨_, _, hc2⟩, hp2⟩ => ?_)
        · have hc1 : Cu (cb :: rc :: oa bs) w w1 cb r.t.b (st0 ++ [(u.t, ((k' + 1 : Nat) : Int), p)]) q.t.b p bs cap := by rw [← hs]; exact hc.mv0 hE
          refine (hc1.left (k := k') (kid := kid.t) (by omega) (huo hE) rfl (by omega) (kt_at hFw hum hk2) (by omega)).mono fun e w' ⟨h1, bs', cap', h2, h3⟩ => ⟨h1, ⟨⟨bs', cap', ?_⟩, (hp.ext0 hE).mvc (hc.mv0 hE) h3⟩, h3⟩
          rw [hlb] at h2; exact h2
        · have hb := hp2.blk
          have hv := hp2.row
          rw [hl] at hb hv
          have hv' : OwnV w2 3 1 (.slice pb (st0.length + 1) pc) (st0.length + 1) (ints (idx st0 ++ [((k' + 1 : Nat) : Int)])) := by rw [hs] at hv; simpa [idx] using hv
          exact (RBeside_in (hK _ hc2.ext) hr hJ0 hb hv' (by omega) (by omega) (j := k') (by omega) (by omega)).mono fun e w' ⟨g, c, h1, h2, h3, h4, h5⟩ => ⟨h1, finYes hj2 hc2 hp2 h4 (by simpa using h2) (by simpa [idx] using h3.v) (fr1 h5)⟩
  by_cases h5 : kd = 5
  · subst h5
    have hro : ∀ {w2}, Ext [] w w2 → r.t.Ok w2 (sOf s0 s1 r.k) := fun h => ((hF h).one r hr).ok
    by_cases ha : 0 ≤ ai ∧ ai < r.t.wd
    · refine Mv_5 (b := true) (MM := cb :: oa bs) (X := fun w' => (∃ st' c p' bs' cap', ToR ai r.t 0 st' c p' ∧ Cu (cb :: rc :: oa bs) w w' cb r.t.b st' c.b p' bs' cap') ∧ Pc w' rc r st pb pc) hM (fun w1 hE => ?_) (fun w2 ⟨⟨st', c, p', bs', cap', hto, hc2⟩, hp2⟩ => ?_)
      · exact ((hc.mv0 hE).to (hro hE) ha).mono fun e w' ⟨h1, st', c, p', bs', cap', h2, h3, h4⟩ => ⟨h1, ⟨⟨st', c, p', bs', cap', h2, h3⟩, (hp.ext0 hE).mvc (hc.mv0 hE) h4⟩, h4⟩
      · have hF2 := hK _ hc2.ext
        obtain ⟨c', hto', rfl⟩ := ToR.lift hF2 hto r hr rfl
        have hj2 := JW.to .nil hto'
        simp only [List.nil_append] at hj2
        refine (RTo_any hF2 hr hp2.blk).mono ?_
        rintro e w' (⟨st2, q2, p2, pb2, pc2, h1, h2, _, h3, h4, h5, h6⟩ | ⟨_, h2, _⟩)
        · obtain ⟨rfl, rfl, rfl⟩ := RTo.det hF2 h2 hr hto'
          exact ⟨h1, finYes hj2 hc2 hp2 h5 h3 h4 fun x hx => .inr (h6 x hx)⟩
        · exact absurd (hto'.holds ha.1 (by omega)) (h2 _ (RTo.mem hF2 hto' []))
    · refine Mv_5 (b := false) (MM := cb :: oa bs) (X := fun w' => Cu (cb :: rc :: oa bs) w w' cb r.t.b st q.t.b p bs cap ∧ Pc w' rc r st pb pc) hM (fun w1 hE => ?_) (fun w2 ⟨hc2, hp2⟩ => ?_)
      · by_cases a0 : ai < 0
        · exact (To_lt (hro hE) (hc.mv0 hE).blk a0).mono fun e w' ⟨h1, h2⟩ => ⟨h1, by subst h2; exact ⟨hc.mv0 hE, hp.ext0 hE⟩, by subst h2; exact Ext.refl _ _⟩
        · exact (To_ge (hro hE) (hc.mv0 hE).blk ⟨by omega, by omega⟩).mono fun e w' ⟨h1, h2⟩ => ⟨h1, by subst h2; exact ⟨hc.mv0 hE, hp.ext0 hE⟩, by subst h2; exact Ext.refl _ _⟩
      · refine (RTo_any (hK _ hc2.ext) hr hp2.blk).mono ?_
        rintro e w' (⟨_, _, _, _, _, _, _, h3, _⟩ | ⟨h1, _, h2⟩)
        · exact absurd h3 ha
        · exact ⟨h1, finNo hc2 hp2 h2⟩
  · exact (Mv_0 ⟨h1, h2, h3, h4, h5⟩).mono fun e w' ⟨h1, h2⟩ => ⟨h1, finNo hc hp h2⟩
end

/-- both cursors stand at one place, and all of them is new since w1 -/
structure Sp2 (w1 w : World) (c rc : Nat) (r : Rf) (bs : Option Addr) : Prop where
  ex : ∃ st q p cap pb pc, JW r st q p ∧ Cu [] w1 w c r.t.b st q.t.b p bs cap ∧ Pc w rc r st pb pc
  rn : w1.heap.size ≤ rc
section
variable {w1 w w' : World} {s0 s1 c rc c2 r2 b : Nat} {L : List Rf} {r : Rf} {bs bs2 : Option Addr} {T : TypeId} {cs : Array Value}
theorem Sp2.ext (h : Sp2 w1 w c rc r bs) : Ext [] w1 w := by obtain ⟨_, _, _, _, _, _, _, h, _⟩ := h.ex; exact h.ext
theorem Sp2.new (h : Sp2 w1 w c rc r bs) : ∀ x ∈ c :: rc :: oa bs, w1.heap.size ≤ x := fun x hx => by
  obtain ⟨_, _, _, _, _, _, _, hc, _⟩ := h.ex
  rcases List.mem_cons.1 hx with rfl | hx
  · exact hc.nd.resolve_left (by simp)
  rcases List.mem_cons.1 hx with rfl | hx
  · exact h.rn
  · exact (hc.nr x hx).resolve_left (by simp)
theorem Sp2.ext0 (h : Sp2 w1 w c rc r bs) (hE : Ext [] w w') : Sp2 w1 w' c rc r bs := by
  obtain ⟨st, q, p, cap, pb, pc, hj, hc, hp⟩ := h.ex
  exact ⟨⟨st, q, p, cap, pb, pc, hj, hc.mv0 hE, hp.ext0 hE⟩, h.rn⟩
theorem Sp2.notin (h : Sp2 w1 w c rc r bs) (hB : Blk w b T cs) (h1 : T ≠ 77) (h2 : T ≠ 85) (h3 : T ≠ 122) : b ∉ c :: rc :: oa bs := fun hm => by
  obtain ⟨_, _, _, _, _, _, _, hc, hp⟩ := h.ex
  rcases List.mem_cons.1 hm with rfl | hm
  · exact h1 (hB.same hc.blk).1
  rcases List.mem_cons.1 hm with rfl | hm
  · exact h2 (hB.same hp.blk).1
  · exact hc.row.notin hB (Ne.symm h3) (by rw [ob_oa]; exact hm)
theorem Sp2.lie (h : Sp2 w1 w c rc r bs) : ∀ x ∈ oa bs, x < w.heap.size := fun x hx => by
  obtain ⟨_, _, _, _, _, _, _, hc, _⟩ := h.ex
  exact hc.row.lie x (by rw [ob_oa]; exact hx)
theorem Sp2.moved (hF : FOk w1 s0 s1 L) (hr : r ∈ L) (h : Sp2 w1 w c rc r bs) (wh kd ai : Int) :
    Calls Try.prog 47 #[.pointer (some ⟨c, 0, none⟩), .pointer (some ⟨rc, 0, none⟩), .agg #[.int .i64 wh, .int .i64 kd, .int .i64 ai]] w fun e w' => e = .returned (.bool true) ∧ ∃ bs', Sp2 w1 w' c rc r bs' ∧ Ext (c :: rc :: oa bs) w w' ∧ (∀ x ∈ oa bs', x ∈ oa bs ∨ w.heap.size ≤ x) := by
  obtain ⟨st, q, p, cap, pb, pc, hj, hc, hp⟩ := h.ex
  have hn := h.new
  refine (Moved_any (fun w2 hE => hF.ext0 (hc.ext.trans hE (fun x hx => .inr (hn x hx)))) hr hj
    (⟨hc.blk, hc.row, .inl (by simp), fun x hx => .inl (by simp [hx]), Ext.refl _ _⟩ : Cu (c :: rc :: oa bs) w w c r.t.b st q.t.b p bs cap) hp wh kd ai).mono ?_
  rintro e w' ⟨h1, st', q', p', bs', cap', pb', pc', hj', hc', hp', _⟩
  have hE1 : Ext [] w1 w' := hc.ext.trans hc'.ext (fun x hx => .inr (hn x hx))
  have hnr : ∀ x ∈ oa bs', x ∈ oa bs ∨ w.heap.size ≤ x := fun x hx => by
    rcases hc'.nr x hx with hm | hm
    · rcases List.mem_cons.1 hm with rfl | hm
      · exact absurd rfl (hc'.row.ne hc'.blk (by decide) _ (by rw [ob_oa]; exact hx))
      rcases List.mem_cons.1 hm with rfl | hm
      · exact absurd rfl (hc'.row.ne hp'.blk (by decide) _ (by rw [ob_oa]; exact hx))
      · exact .inl hm
    · exact .inr hm
  refine ⟨h1, bs', ⟨⟨st', q', p', cap', pb', pc', hj', ⟨hc'.blk, hc'.row, hc.nd, fun x hx => ?_, hE1⟩, hp'⟩, h.rn⟩, hc'.ext, hnr⟩
  rcases hnr x hx with hm | hm
  · exact .inr (hn x (by simp [hm]))
  · exact .inr (Nat.le_trans hc.ext.size hm)
theorem Sp2.other (h : Sp2 w1 w c2 r2 r bs2) (hm : Sp2 w1 w c rc r bs) (hE : Ext (c :: rc :: oa bs) w w') (hne : c2 ≠ c) (hrne : r2 ≠ rc) (hd : ∀ x ∈ oa bs2, x ∉ oa bs) : Sp2 w1 w' c2 r2 r bs2 := by
  obtain ⟨st, q, p, cap, pb, pc, hj, hc, hp⟩ := h.ex
  obtain ⟨_, _, _, _, _, _, _, hcm, hpm⟩ := hm.ex
  have hn1 : c2 ∉ c :: rc :: oa bs := fun hx => by
    rcases List.mem_cons.1 hx with hx | hx
    · exact hne hx
    rcases List.mem_cons.1 hx with rfl | hx
    · exact absurd (hc.blk.same hpm.blk).1 (by decide)
    · exact hcm.row.notin hc.blk (by decide) (by rw [ob_oa]; exact hx)
  have hn2 : r2 ∉ c :: rc :: oa bs := fun hx => by
    rcases List.mem_cons.1 hx with rfl | hx
    · exact absurd (hp.blk.same hcm.blk).1 (by decide)
    rcases List.mem_cons.1 hx with hx | hx
    · exact hrne hx
    · exact hcm.row.notin hp.blk (by decide) (by rw [ob_oa]; exact hx)
  refine ⟨⟨st, q, p, cap, pb, pc, hj, hc.mv hE hn1 (fun x hx hm => ?_) (fun x hx => .inr (hm.new x hx)), ⟨hp.blk.ext hE hn2, hp.row.ext hE (fun x hx hm => ?_)⟩⟩, h.rn⟩
  · have hx' : x ∈ ob (.slice bs2 st.length cap) := by rw [ob_oa]; exact hx
    rcases List.mem_cons.1 hm with rfl | hm
    · exact hc.row.ne hcm.blk (by decide) _ hx' rfl
    rcases List.mem_cons.1 hm with rfl | hm
    · exact hc.row.ne hpm.blk (by decide) _ hx' rfl
    · exact hd x hx hm
  · rcases List.mem_cons.1 hm with rfl | hm
    · exact hp.row.ne hcm.blk (by decide) _ hx rfl
    rcases List.mem_cons.1 hm with rfl | hm
    · exact hp.row.ne hpm.blk (by decide) _ hx rfl
    · exact hp.row.disj hcm.row (by decide) x hx (by rw [ob_oa]; exact hm)
end

/-- moves, as they lie -/
def mvc : List (Int × Int × Int) → List Value
  | [] => []
  | m :: l => [.int .i64 m.1, .int .i64 m.2.1, .int .i64 m.2.2] ++ mvc l
theorem mvc_len : ∀ l, (mvc l).length = l.length * 3
  | [] => rfl
  | m :: l => by simp only [mvc, List.length_append, mvc_len l, List.length_cons, List.length_nil]; omega
theorem mvc_at : ∀ (l : List (Int × Int × Int)) (j i : Nat) (m : Int × Int × Int), l[j]? = some m → i < 3 → (mvc l)[j * 3 + i]? = [.int .i64 m.1, .int .i64 m.2.1, .int .i64 m.2.2][i]?
  | [], j, i, m, hj, _ => by simp at hj
  | s :: l, 0, i, m, hj, hi => by
    simp only [List.getElem?_cons_zero, Option.some.injEq] at hj
    subst hj
    simp only [mvc, Nat.zero_mul, Nat.zero_add]
    rw [List.getElem?_append_left (by simpa using hi)]
  | s :: l, j + 1, i, m, hj, hi => by
    simp only [List.getElem?_cons_succ] at hj
    have ih := mvc_at l j i m hj hi
    simp only [mvc]
    rw [List.getElem?_append_right (by simp; omega), ← ih]
    congr 1
    simp; omega
end Go.Proofs.Ytpglmeeledmkoaa
