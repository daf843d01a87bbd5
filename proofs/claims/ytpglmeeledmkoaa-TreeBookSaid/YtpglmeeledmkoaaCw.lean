/- A cursor that goes: what it owns, and what lies behind it. -/
import Derived.Test.YtpglmeeledmkoaaJw
import Derived.Test.YtpglmeeledmkoaaT19
namespace Go.Proofs.Ytpglmeeledmkoaa
open Go.Vc

section
variable {w : World} {s0 s1 : Nat} {L : List Rf} {r q kid : Rf} {st : List Stp} {p : Int}
theorem JW.step (h : JW r st q p) {k : Nat} (hk : k < st.length) : ∃ u pu j kid, JW r (st.take k) u pu ∧ u.kids[j]? = some kid ∧ st[k]? = some (u.t, ((j : Nat) : Int), pu + sumW ((u.kids.take j).map Rf.t)) ∧
    st.take (k + 1) = st.take k ++ [(u.t, ((j : Nat) : Int), pu + sumW ((u.kids.take j).map Rf.t))] ∧ JW r (st.take (k + 1)) kid (pu + sumW ((u.kids.take j).map Rf.t)) := by
  obtain ⟨q', p', h1⟩ := h.take (k + 1) (by omega)
  have e : st.take (k + 1) = st.take k ++ [st[k]] := List.take_succ_eq_append_getElem hk
  have h2 := h1
  rw [e] at h2
  obtain ⟨u, pu, j, g1, g2, g3, g4⟩ := h2.unsnoc
  have hs : st[k]? = some st[k] := List.getElem?_eq_getElem hk
  subst g4
  exact ⟨u, pu, j, q', g1, g2, by rw [hs, g3], by rw [e, g3], h1⟩
theorem kt_at (hF : FOk w s0 s1 L) (hq : q ∈ L) {k : Nat} (h : q.kids[k]? = some kid) : q.t.kids[k]? = some kid.t := by rw [(hF.one q hq).kt]; simp [h]
theorem kt_len (hF : FOk w s0 s1 L) (hq : q ∈ L) : q.t.kids.length = q.kids.length := by rw [(hF.one q hq).kt]; simp

/-- the way's last step: there is none, or nothing stands beside it, or something does -/
theorem JW.cases3 (hF : FOk w s0 s1 L) (hr : r ∈ L) (h : JW r st q p) : st = [] ∨
    (∃ st0 u pu k, JW r st0 u pu ∧ u.kids[k]? = some q ∧ st = st0 ++ [(u.t, ((k : Nat) : Int), p)] ∧ p = pu + sumW (u.t.kids.take k) ∧ u.t.kids.length ≤ k + 1) ∨
    (∃ st0 u pu k, ∃ kid : Rf, JW r st0 u pu ∧ u.kids[k]? = some q ∧ st = st0 ++ [(u.t, ((k : Nat) : Int), p)] ∧ p = pu + sumW (u.t.kids.take k) ∧ u.kids[k + 1]? = some kid) := by
  rcases List.eq_nil_or_concat st with hs | ⟨st0, s, hs⟩
  · exact .inl hs
  · rw [List.concat_eq_append] at hs
    subst hs
    obtain ⟨u, pu, k, g1, g2, rfl, g4⟩ := h.unsnoc
    have hu := g1.mem hF hr
    rw [← kids_sum hF hu] at g4
    rcases Nat.lt_or_ge (k + 1) u.kids.length with hl | hl
    · exact .inr (.inr ⟨st0, u, pu, k, _, g1, g2, rfl, g4, List.getElem?_eq_getElem hl⟩)
    · exact .inr (.inl ⟨st0, u, pu, k, g1, g2, rfl, g4, by rw [kt_len hF hu]; exact hl⟩)
theorem kids_le {sb : Nat} {t : Tr} (h : t.Ok w sb) : (t.kids.length : Int) ≤ t.tt := by
  have h1 := Oks.len h.oks
  by_cases hk : t.kd = 1
  · rw [(h.nums.leaf hk).1]; have := (Tr.Ok.tt_pos t h).1; simp; omega
  · have h2 := (h.nums.inner hk).2.2.2.2.2.2.2.2.2.1
    omega
end

/-- a cursor of which all is in M or new since W0 -/
structure Cu (M : List Nat) (W0 w : World) (d top : Nat) (st : List Stp) (nb : Nat) (p : Int) (bs : Option Addr) (cap : Nat) : Prop where
  blk : Blk w d 77 #[.pointer (some ⟨top, 0, none⟩), .slice bs st.length cap, .pointer (some ⟨nb, 0, none⟩), .int .i64 p]
  row : OwnV w 122 3 (.slice bs st.length cap) st.length (ways st)
  nd : d ∈ M ∨ W0.heap.size ≤ d
  nr : ∀ x ∈ oa bs, x ∈ M ∨ W0.heap.size ≤ x
  ext : Ext M W0 w

section
variable {M : List Nat} {W0 w w' : World} {d top nb : Nat} {st : List Stp} {p : Int} {bs : Option Addr} {cap sb : Nat}
theorem Cu.mv {M' : List Nat} (h : Cu M W0 w d top st nb p bs cap) (hE : Ext M' w w') (h1 : d ∉ M') (h2 : ∀ x ∈ oa bs, x ∉ M') (h3 : ∀ x ∈ M', x ∈ M ∨ W0.heap.size ≤ x) : Cu M W0 w' d top st nb p bs cap :=
  ⟨h.blk.ext hE h1, h.row.ext hE (by rw [ob_oa]; exact h2), h.nd, h.nr, h.ext.trans hE h3⟩
theorem Cu.mv0 (h : Cu M W0 w d top st nb p bs cap) (hE : Ext [] w w') : Cu M W0 w' d top st nb p bs cap := h.mv hE (by simp) (by simp) (by simp)
theorem Cu.turn (h : Cu M W0 w d top st nb p bs cap) {st2 : List Stp} {nb2 : Nat} {p2 : Int} {bs2 : Option Addr} {cap2 : Nat} (hE : Ext (d :: oa bs) w w')
    (hb : Blk w' d 77 #[.pointer (some ⟨top, 0, none⟩), .slice bs2 st2.length cap2, .pointer (some ⟨nb2, 0, none⟩), .int .i64 p2]) (hr : OwnV w' 122 3 (.slice bs2 st2.length cap2) st2.length (ways st2))
    (hn : ∀ x ∈ oa bs2, x ∈ oa bs ∨ w.heap.size ≤ x) : Cu M W0 w' d top st2 nb2 p2 bs2 cap2 :=
  ⟨hb, hr, h.nd, fun x hx => by
    rcases hn x hx with h1 | h1
    · exact h.nr x h1
    · exact .inr (Nat.le_trans h.ext.size h1), h.ext.trans hE fun x hx => by
    rcases List.mem_cons.1 hx with rfl | hx
    · exact h.nd
    · exact h.nr x hx⟩

theorem Cu.down {c : Tr} {k : Nat} {kid : Tr} (h : Cu M W0 w d top st c.b p bs cap) (hc : c.Ok w sb) (hlen : st.length ≤ 1000000000) (hp : 0 ≤ p ∧ p ≤ 4611686018427387904) (hk : c.kids[k]? = some kid) :
    Calls Try.prog 43 #[.pointer (some ⟨d, 0, none⟩), .int .i64 ↑k] w fun e w' => e = .returned (.bool true) ∧ ∃ bs2 cap2, Cu M W0 w' d top (st ++ [(c, (k : Int), p + sumW (c.kids.take k))]) kid.b (p + sumW (c.kids.take k)) bs2 cap2 ∧ Ext (d :: oa bs) w w' := by
  refine (Down_in hc h.blk h.row hlen hp hk).mono ?_
  rintro e w' ⟨bs2, cap2, h1, h2, h3, h4, h5⟩
  rw [ob_oa] at h4
  exact ⟨h1, bs2, cap2, h.turn h4 (by simpa using h2) (by simpa using h3) (fun x hx => by have := h5 x (by rw [ob_oa]; exact hx); rwa [ob_oa] at this), h4⟩
theorem Cu.up {s : Stp} (h : Cu M W0 w d top (st ++ [s]) nb p bs cap) (hlen : st.length ≤ 1000000000) :
    Calls Try.prog 42 #[.pointer (some ⟨d, 0, none⟩)] w fun e w' => e = .returned (.bool true) ∧ Cu M W0 w' d top st s.1.b (lastB st) bs cap ∧ Ext (d :: oa bs) w w' := by
  refine (Up_1 (st := st) (s := s) (by simpa using h.blk) (by simpa [ways_append, ways] using h.row) hlen).mono ?_
  rintro e w' ⟨h1, h2, h3, h4⟩
  exact ⟨h1, h.turn (h4.mono (by simp)) h2 h3 (fun x hx => .inl hx), h4.mono (by simp)⟩
theorem Cu.up0 (h : Cu M W0 w d top [] nb p bs cap) : Calls Try.prog 42 #[.pointer (some ⟨d, 0, none⟩)] w fun e w' => e = .returned (.bool false) ∧ w' = w := Up_0 h.blk
theorem Cu.right0 (h : Cu M W0 w d top [] nb p bs cap) : Calls Try.prog 45 #[.pointer (some ⟨d, 0, none⟩)] w fun e w' => e = .returned (.bool false) ∧ Cu M W0 w' d top [] nb p bs cap ∧ Ext (d :: oa bs) w w' :=
  (Right_of (R := fun e w' => e = .returned (.bool false) ∧ w' = w) (fun h => ⟨_, h.1⟩) (Beside_0 h.blk)).mono fun e w' ⟨h1, h2⟩ => by subst h2; exact ⟨h1, h, Ext.refl _ _⟩
theorem Cu.right_ge {s : Stp} {k : Nat} (h : Cu M W0 w d top (st ++ [s]) nb p bs cap) (hlen : st.length ≤ 1000000000) (hc : s.1.Ok w sb) (hs : s.2.1 = (k : Int)) (hk : k ≤ 1000000000) (hr : s.1.kids.length ≤ k + 1) :
    Calls Try.prog 45 #[.pointer (some ⟨d, 0, none⟩)] w fun e w' => e = .returned (.bool false) ∧ Cu M W0 w' d top (st ++ [s]) nb p bs cap ∧ Ext (d :: oa bs) w w' :=
  (Right_of (R := fun e w' => e = .returned (.bool false) ∧ Ext [] w w') (fun h => ⟨_, h.1⟩)
    (Beside_ge (st := st) (s := s) (by simpa using h.blk) (by simpa [ways_append, ways] using h.row) hlen hc (by omega) (by omega) (by omega))).mono fun e w' ⟨h1, h2⟩ => ⟨h1, h.mv0 h2, h2.of0⟩
theorem Cu.beside {s : Stp} {k : Nat} {by_ : Int} {kid : Tr} (h : Cu M W0 w d top (st ++ [s]) nb p bs cap) (hlen : st.length ≤ 1000000000) (hc : s.1.Ok w sb) (hs0 : 0 ≤ s.2.1 ∧ s.2.1 ≤ 1000000000) (hby : -10 ≤ by_ ∧ by_ ≤ 10) (hr : s.2.1 + by_ = k) (hk : s.1.kids[k]? = some kid)
    (hp : 0 ≤ lastB st ∧ lastB st ≤ 4611686018427387904) :
    Calls Try.prog 70 #[.pointer (some ⟨d, 0, none⟩), .int .i64 by_] w fun e w' => e = .returned (.bool true) ∧ ∃ bs2 cap2, Cu M W0 w' d top (st ++ [(s.1, (k : Int), lastB st + sumW (s.1.kids.take k))]) kid.b (lastB st + sumW (s.1.kids.take k)) bs2 cap2 ∧ Ext (d :: oa bs) w w' := by
  refine (Beside_in (st := st) (s := s) (by simpa using h.blk) (by simpa [ways_append, ways] using h.row) hlen hc hs0 hby hr hk hp).mono ?_
  rintro e w' ⟨bs2, cap2, h1, h2, h3, h4, h5⟩
  rw [ob_oa] at h4
  exact ⟨h1, bs2, cap2, h.turn h4 (by simpa using h2) (by simpa using h3) (fun x hx => by have := h5 x (by rw [ob_oa]; exact hx); rwa [ob_oa] at this), h4⟩
theorem Cu.right {s : Stp} {k : Nat} {kid : Tr} (h : Cu M W0 w d top (st ++ [s]) nb p bs cap) (hlen : st.length ≤ 1000000000) (hc : s.1.Ok w sb) (hs : s.2.1 = (k : Int)) (hkb : k ≤ 1000000000) (hk : s.1.kids[k + 1]? = some kid) (hp : 0 ≤ lastB st ∧ lastB st ≤ 4611686018427387904) :
    Calls Try.prog 45 #[.pointer (some ⟨d, 0, none⟩)] w fun e w' => e = .returned (.bool true) ∧ ∃ bs2 cap2, Cu M W0 w' d top (st ++ [(s.1, ((k + 1 : Nat) : Int), lastB st + sumW (s.1.kids.take (k + 1)))]) kid.b (lastB st + sumW (s.1.kids.take (k + 1))) bs2 cap2 ∧ Ext (d :: oa bs) w w' :=
  Right_of (fun h => ⟨_, h.1⟩) (h.beside (k := k + 1) hlen hc (by omega) (by omega) (by omega) hk hp)
theorem Cu.left {s : Stp} {k : Nat} {kid : Tr} (h : Cu M W0 w d top (st ++ [s]) nb p bs cap) (hlen : st.length ≤ 1000000000) (hc : s.1.Ok w sb) (hs : s.2.1 = ((k + 1 : Nat) : Int)) (hkb : k ≤ 1000000000 - 1) (hk : s.1.kids[k]? = some kid) (hp : 0 ≤ lastB st ∧ lastB st ≤ 4611686018427387904) :
    Calls Try.prog 46 #[.pointer (some ⟨d, 0, none⟩)] w fun e w' => e = .returned (.bool true) ∧ ∃ bs2 cap2, Cu M W0 w' d top (st ++ [(s.1, (k : Int), lastB st + sumW (s.1.kids.take k))]) kid.b (lastB st + sumW (s.1.kids.take k)) bs2 cap2 ∧ Ext (d :: oa bs) w w' :=
  Left_of (fun h => ⟨_, h.1⟩) (h.beside (k := k) hlen hc (by omega) (by omega) (by omega) hk hp)
/-- a block of another type is not the cursor's -/
theorem Cu.notin (h : Cu M W0 w d top st nb p bs cap) {b : Nat} {T : TypeId} {cs : Array Value} (hB : Blk w b T cs) (h1 : T ≠ 77) (h2 : T ≠ 122) : b ∉ d :: oa bs := fun hm => by
  rcases List.mem_cons.1 hm with rfl | hm
  · exact h1 (hB.same h.blk).1
  · exact h.row.notin hB (Ne.symm h2) (by rw [ob_oa]; exact hm)
theorem Cu.store (h : Cu M W0 w d top st nb p bs cap) {b : Nat} {T : TypeId} {cs : Array Value} (hE : Ext [b] w w') (hB : Blk w b T cs) (h1 : T ≠ 77) (h2 : T ≠ 122) (hm : b ∈ M ∨ W0.heap.size ≤ b) : Cu M W0 w' d top st nb p bs cap := by
  have hn := h.notin hB h1 h2
  exact h.mv hE (fun hx => hn (by simp at hx; simp [hx])) (fun x hx hm => hn (by simp at hm; subst hm; simp [hx])) (fun x hx => by simp at hx; subst hx; exact hm)
end
end Go.Proofs.Ytpglmeeledmkoaa
