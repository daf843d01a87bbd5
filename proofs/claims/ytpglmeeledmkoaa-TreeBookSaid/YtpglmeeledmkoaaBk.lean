/- What TreeBook keeps: rows and paths that were handed out, and the cursors beside them. -/
import Derived.Test.YtpglmeeledmkoaaTw
import Derived.Test.YtpglmeeledmkoaaT42
import Derived.Test.YtpglmeeledmkoaaT36
import Derived.Test.YtpglmeeledmkoaaLv
namespace Go.Proofs.Ytpglmeeledmkoaa
open Go.Vc

/-- where both cursors stand -/
structure Cs where
  bs : Option Addr
  pb : Option Addr
  st : List Stp
  q : Rf
  p : Int
  cap : Nat
  pc : Nat
/-- both cursors, all of them new since w1 -/
structure Sp3 (w1 w : World) (c rc : Nat) (r : Rf) (C : Cs) : Prop where
  jw : JW r C.st C.q C.p
  cu : Cu [] w1 w c r.t.b C.st C.q.t.b C.p C.bs C.cap
  pc : Pc w rc r C.st C.pb C.pc
  rn : w1.heap.size ≤ rc
section
variable {w1 w w' : World} {s0 s1 c rc : Nat} {L : List Rf} {r : Rf} {C : Cs} {M : List Nat}
theorem Sp3.new (h : Sp3 w1 w c rc r C) : ∀ x ∈ c :: rc :: oa C.bs, w1.heap.size ≤ x := fun x hx => by
  rcases List.mem_cons.1 hx with rfl | hx
  · exact h.cu.nd.resolve_left (by simp)
  rcases List.mem_cons.1 hx with rfl | hx
  · exact h.rn
  · exact (h.cu.nr x hx).resolve_left (by simp)
theorem Sp3.ext0 (h : Sp3 w1 w c rc r C) (hE : Ext [] w w') : Sp3 w1 w' c rc r C := ⟨h.jw, h.cu.mv0 hE, h.pc.ext0 hE, h.rn⟩
theorem Sp3.plt (h : Sp3 w1 w c rc r C) : ∀ x ∈ oa C.pb, x < w.heap.size := fun x hx => h.pc.row.lie x (by rw [ob_oa]; exact hx)
/-- rows of other types are written -/
theorem Sp3.extV (h : Sp3 w1 w c rc r C) (hE : Ext M w w') (hM : ∀ b ∈ M, w1.heap.size ≤ b) (hV : ∀ b ∈ M, ∃ (e : TypeId) (size n : Nat) (v : Value) (xs : List Value), OwnV w e size v n xs ∧ b ∈ ob v ∧ e ≠ 77 ∧ e ≠ 85 ∧ e ≠ 122) (hp : ∀ b ∈ M, b ∉ oa C.pb) : Sp3 w1 w' c rc r C := by
  refine ⟨h.jw, h.cu.mv hE (fun hm => ?_) (fun x hx hm => ?_) (fun x hx => .inr (hM x hx)), ⟨h.pc.blk.ext hE (fun hm => ?_), h.pc.row.ext hE (fun x hx hm => hp x hm (by rw [ob_oa] at hx; exact hx))⟩, h.rn⟩
  · obtain ⟨e, size, n, v, xs, hv, hb, h1, _, _⟩ := hV _ hm
    exact hv.notin h.cu.blk h1 hb
  · obtain ⟨e, size, n, v, xs, hv, hb, _, _, h3⟩ := hV _ hm
    exact hv.disj h.cu.row h3 _ hb (by rw [ob_oa]; exact hx)
  · obtain ⟨e, size, n, v, xs, hv, hb, _, h2, _⟩ := hV _ hm
    exact hv.notin h.pc.blk h2 hb
/-- what a step of both leaves as it is -/
theorem Sp3.off (h : Sp3 w1 w c rc r C) {e : TypeId} {size n : Nat} {v : Value} {xs : List Value} (hV : OwnV w e size v n xs) (h1 : e ≠ 77) (h2 : e ≠ 85) (h3 : e ≠ 122) : ∀ x ∈ ob v, x ∉ c :: rc :: oa C.bs := fun x hx hm => by
  rcases List.mem_cons.1 hm with rfl | hm
  · exact hV.ne h.cu.blk h1 _ hx rfl
  rcases List.mem_cons.1 hm with rfl | hm
  · exact hV.ne h.pc.blk h2 _ hx rfl
  · exact hV.disj h.cu.row h3 x hx (by rw [ob_oa]; exact hm)
theorem Sp3.moved (hF : FOk w1 s0 s1 L) (hr : r ∈ L) (h : Sp3 w1 w c rc r C) (wh kd ai : Int) :
    Calls Try.prog 47 #[.pointer (some ⟨c, 0, none⟩), .pointer (some ⟨rc, 0, none⟩), .agg #[.int .i64 wh, .int .i64 kd, .int .i64 ai]] w fun e w' => e = .returned (.bool true) ∧ ∃ C' : Cs, Sp3 w1 w' c rc r C' ∧ Ext (c :: rc :: oa C.bs) w w' ∧ (∀ x ∈ oa C'.pb, x ∈ oa C.pb ∨ w.heap.size ≤ x) := by
  have hc := h.cu
  have hn := h.new
  refine (Moved_any (fun w2 hE => hF.ext0 (hc.ext.trans hE (fun x hx => .inr (hn x hx)))) hr h.jw
    (⟨hc.blk, hc.row, .inl (by simp), fun x hx => .inl (by simp [hx]), Ext.refl _ _⟩ : Cu (c :: rc :: oa C.bs) w w c r.t.b C.st C.q.t.b C.p C.bs C.cap) h.pc wh kd ai).mono ?_
  rintro e w' ⟨h1, st', q', p', bs', cap', pb', pc', hj', hc', hp', hf⟩
  have hE1 : Ext [] w1 w' := hc.ext.trans hc'.ext (fun x hx => .inr (hn x hx))
  refine ⟨h1, ⟨bs', pb', st', q', p', cap', pc'⟩, ⟨hj', ⟨hc'.blk, hc'.row, hc.nd, fun x hx => ?_, hE1⟩, hp', h.rn⟩, hc'.ext, hf⟩
  rcases hc'.nr x hx with hm | hm
  · exact .inr (hn x hm)
  · exact .inr (Nat.le_trans hc.ext.size hm)
/-- the cursor's path -/
theorem Path_b (h : Sp3 w1 w c rc r C) (hl : C.st.length ≤ 1000000000) : Calls Try.prog 39 #[.pointer (some ⟨c, 0, none⟩)] w fun e w' => ∃ b2 c2, e = .returned (.slice b2 C.st.length c2) ∧ OwnV w' 3 1 (.slice b2 C.st.length c2) C.st.length (ints (idx C.st)) ∧ (∀ b ∈ ob (.slice b2 C.st.length c2), w.heap.size ≤ b) ∧ Ext [] w w' := by
  refine (Path_any h.cu.blk h.cu.row hl).mono ?_
  rintro e w' ⟨b2, c2, h1, h2, h3, h4⟩
  rw [kidsOf_idx] at h2
  exact ⟨b2, c2, h1, h2, h4, h3⟩
end
theorem Rows_b {sb N : Nat} {t : Tr} {w : World} (ht : t.Ok w sb) (hn : (walk t 0).length = N) : Calls Try.prog 25 #[.pointer (some ⟨t.b, 0, none⟩)] w fun e w' => ∃ b2 c2, e = .returned (.slice b2 N c2) ∧ OwnV w' 64 6 (.slice b2 N c2) N (rowsT (pre t)) ∧ (∀ b ∈ ob (.slice b2 N c2), w.heap.size ≤ b) ∧ Ext [] w w' := by
  refine (Rows_n ht hn (rowsOf_pre t 0)).mono ?_
  rintro e w' ⟨g, c, h1, h2, h3, h4⟩
  exact ⟨some ⟨g, 0, none⟩, c, h1, h2.v, fun b hb => by
    have hb : b = g := by simpa [ob] using hb
    rw [hb]; exact h4, h3⟩
/-- rows of a node, handed out, in a row of their own -/
structure Ra (N0 N : Nat) (w : World) (n : Nat) (rb : Option Addr) (rp : Nat) (LR : List Rw) : Prop where
  ro : OwnV w 54 1 (.slice rb n rp) n (LR.map Rw.v)
  rf : Fam w 64 6 (fun b => N0 ≤ b) LR
  rn : ∀ x ∈ ob (.slice rb n rp), N0 ≤ x
  rm : ∀ x ∈ LR, x.n = N
section
variable {N0 N n : Nat} {w w' w0 : World} {rb : Option Addr} {rp : Nat} {LR : List Rw}
theorem Ra.nil : Ra N0 N w 0 none 0 [] := ⟨OwnV.nil _ _ _, Fam.nil, fun x hx => by simp [ob] at hx, fun x hx => by cases hx⟩
theorem Ra.len (h : Ra N0 N w n rb rp LR) : LR.length = n := by
  have := h.ro.len
  simpa using this
theorem Ra.ext0 (h : Ra N0 N w n rb rp LR) (hE : Ext [] w w') : Ra N0 N w' n rb rp LR := ⟨h.ro.ext hE (by simp), h.rf.ext0 hE, h.rn, h.rm⟩
theorem Ra.app (h : Ra N0 N w0 n rb rp LR) (hE0 : Ext [] w0 w) (hE : Ext (ob (.slice rb n rp)) w w') {v : Value} {xs : List Value} {g ca : Nat} (hO : OwnR w' 54 1 g ca (n + 1) (LR.map Rw.v ++ [v])) (h1 : OwnV w 64 6 v N xs) (f1 : ∀ b ∈ ob v, w0.heap.size ≤ b) (hN : N0 ≤ w0.heap.size) (hF : Fresh w.heap.size (ob (.slice rb n rp)) [g]) : Ra N0 N w' (n + 1) (some ⟨g, 0, none⟩) ca (LR ++ [⟨v, N, xs⟩]) := by
  have hb := h.ext0 hE0
  have hs : Fam w 64 6 (fun b => N0 ≤ b) (LR ++ [⟨v, N, xs⟩]) := hb.rf.snoc h1 (fun b hb' => Nat.le_trans hN (f1 b hb')) fun k x hx b hb1 hb2 => by
    have := h.rf.lie hx b hb1
    have := f1 b hb2
    omega
  refine ⟨by rw [List.map_append]; exact hO.v, hs.ext hE fun k x hx => (hs.own k x hx).disj hb.ro (by decide), fun x hx => ?_, fun x hx => ?_⟩
  · have hx : x = g := by simpa [ob] using hx
    rw [hx]
    rcases hF g (by simp) with h2 | h2
    · exact h.rn g h2
    · exact Nat.le_trans hN (Nat.le_trans hE0.size h2)
  · rcases List.mem_append.1 hx with hx | hx
    · exact h.rm x hx
    · rw [List.mem_singleton.1 hx]
end
/-- all that is kept -/
structure Bk (w1 w : World) (N0 N : Nat) (r : Rf) (c rc : Nat) (C : Cs) (wb : Option Addr) (wc : Nat) (nr : Nat) (rb : Option Addr) (rp : Nat) (LR : List Rw) (m : Nat) (qb : Option Addr) (qp : Nat) (LP : List Rw) : Prop where
  want : OwnV w 64 6 (.slice wb N wc) N (rowsT (pre r.t))
  wl : ∀ x ∈ ob (.slice wb N wc), x < N0
  ra : Ra N0 N w nr rb rp LR
  sp : Sp3 w1 w c rc r C
  po : OwnV w 41 1 (.slice qb m qp) m (LP.map Rw.v)
  pf : Fam w 3 1 (fun b => N0 ≤ b) LP
  pq : ∀ x ∈ ob (.slice qb m qp), N0 ≤ x
  pd : ∀ b ∈ bl LP, b ∉ oa C.pb
  pn : ∀ x ∈ LP, x.n ≤ 1000000000
  n0 : w1.heap.size ≤ N0
  n1 : N0 ≤ w.heap.size
section
variable {w1 w w' wm : World} {N0 N s0 s1 c rc wc nr rp m qp : Nat} {r : Rf} {C : Cs} {wb rb qb : Option Addr} {LR LP : List Rw} {L : List Rf}
theorem Bk.len (h : Bk w1 w N0 N r c rc C wb wc nr rb rp LR m qb qp LP) : LP.length = m := by
  have := h.po.len
  simpa using this
theorem Bk.ext0 (h : Bk w1 w N0 N r c rc C wb wc nr rb rp LR m qb qp LP) (hE : Ext [] w w') : Bk w1 w' N0 N r c rc C wb wc nr rb rp LR m qb qp LP :=
  ⟨h.want.ext hE (by simp), h.wl, h.ra.ext0 hE, h.sp.ext0 hE, h.po.ext hE (by simp), h.pf.ext0 hE, h.pq, h.pd, h.pn, h.n0, Nat.le_trans h.n1 hE.size⟩
theorem Bk.moved (hF : FOk w1 s0 s1 L) (hr : r ∈ L) (h : Bk w1 w N0 N r c rc C wb wc nr rb rp LR m qb qp LP) (wh kd ai : Int) :
    Calls Try.prog 47 #[.pointer (some ⟨c, 0, none⟩), .pointer (some ⟨rc, 0, none⟩), .agg #[.int .i64 wh, .int .i64 kd, .int .i64 ai]] w fun e w' => ∃ C', e = .returned (.bool true) ∧ Bk w1 w' N0 N r c rc C' wb wc nr rb rp LR m qb qp LP ∧ Ext [] w1 w' := by
  refine (h.sp.moved hF hr wh kd ai).mono ?_
  rintro e w' ⟨h1, C', h2, h3, h4⟩
  refine ⟨C', h1, ⟨h.want.ext h3 (h.sp.off h.want (by decide) (by decide) (by decide)), h.wl, ⟨h.ra.ro.ext h3 (h.sp.off h.ra.ro (by decide) (by decide) (by decide)), h.ra.rf.ext h3 fun k x hx => h.sp.off (h.ra.rf.own k x hx) (by decide) (by decide) (by decide), h.ra.rn, h.ra.rm⟩, h2,
    h.po.ext h3 (h.sp.off h.po (by decide) (by decide) (by decide)), h.pf.ext h3 fun k x hx => h.sp.off (h.pf.own k x hx) (by decide) (by decide) (by decide), h.pq, fun b hb hm => ?_, h.pn, h.n0, Nat.le_trans h.n1 h3.size⟩, h2.cu.ext⟩
  rcases h4 b hm with h5 | h5
  · exact h.pd b hb h5
  · have := h.pf.blt b hb
    omega
theorem Bk.app (h : Bk w1 wm N0 N r c rc C wb wc nr rb rp LR m qb qp LP) (hE0 : Ext [] wm w) (hE : Ext (ob (.slice qb m qp)) w w') {v1 v2 : Value} {n1 n2 g ca np : Nat} {xs1 xs2 : List Value} (hO : OwnR w' 41 1 g ca (m + 2) (LP.map Rw.v ++ [v1, v2]))
    (h1 : OwnV w 3 1 v1 n1 xs1) (h2 : OwnV w 3 1 v2 n2 xs2) (f1 : ∀ b ∈ ob v1, wm.heap.size ≤ b) (l1 : ∀ b ∈ ob v1, b < np) (f2 : ∀ b ∈ ob v2, np ≤ b) (hnp : wm.heap.size ≤ np) (m1 : n1 ≤ 1000000000) (m2 : n2 ≤ 1000000000) (hF : Fresh w.heap.size (ob (.slice qb m qp)) [g]) :
    Bk w1 w' N0 N r c rc C wb wc nr rb rp LR (m + 2) (some ⟨g, 0, none⟩) ca (LP ++ [⟨v1, n1, xs1⟩, ⟨v2, n2, xs2⟩]) := by
  have hb := h.ext0 hE0
  have hn := h.n1
  have he : LP ++ [(⟨v1, n1, xs1⟩ : Rw), ⟨v2, n2, xs2⟩] = (LP ++ [⟨v1, n1, xs1⟩]) ++ [⟨v2, n2, xs2⟩] := by simp
  have hfam : Fam w 3 1 (fun b => N0 ≤ b) (LP ++ [⟨v1, n1, xs1⟩, ⟨v2, n2, xs2⟩]) := by
    rw [he]
    have ha : Fam w 3 1 (fun b => N0 ≤ b) (LP ++ [⟨v1, n1, xs1⟩]) := hb.pf.snoc h1 (fun b hb' => Nat.le_trans hn (f1 b hb')) fun k x hx b hb1 hb2 => by
      have := h.pf.lie hx b hb1
      have := f1 b hb2
      omega
    refine ha.snoc h2 (fun b hb' => Nat.le_trans hn (Nat.le_trans hnp (f2 b hb'))) fun k x hx b hb1 hb2 => ?_
    have h3 := f2 b hb2
    rcases Nat.lt_trichotomy k LP.length with hk | hk | hk
    · rw [List.getElem?_append_left hk] at hx
      have := h.pf.lie hx b hb1
      omega
    · subst hk
      simp at hx
      subst hx
      have := l1 b hb1
      omega
    · have := (List.getElem?_eq_some_iff.1 hx).1
      simp at this
      omega
  have hq : ∀ b ∈ ob (.slice qb m qp), b ∉ oa C.pb := fun b hb1 hb2 => hb.po.disj hb.sp.pc.row (by decide) b hb1 (by rw [ob_oa]; exact hb2)
  refine ⟨hb.want.ext hE (hb.want.disj hb.po (by decide)), h.wl, ⟨hb.ra.ro.ext hE (hb.ra.ro.disj hb.po (by decide)), hb.ra.rf.ext hE fun k x hx => (hb.ra.rf.own k x hx).disj hb.po (by decide), h.ra.rn, h.ra.rm⟩,
    hb.sp.extV hE (fun b hb' => Nat.le_trans h.n0 (h.pq b hb')) (fun b hb' => ⟨_, _, _, _, _, hb.po, hb', by decide, by decide, by decide⟩) hq,
    by rw [List.map_append]; exact hO.v, hfam.ext hE fun k x hx => (hfam.own k x hx).disj hb.po (by decide), fun x hx => ?_, fun b hb1 hb2 => ?_, fun x hx => ?_, h.n0, Nat.le_trans hb.n1 hE.size⟩
  · have hx : x = g := by simpa [ob] using hx
    rw [hx]
    rcases hF g (by simp) with h3 | h3
    · exact h.pq g h3
    · exact Nat.le_trans hb.n1 h3
  · have h3 := h.sp.plt b hb2
    rw [he, bl_snoc, bl_snoc] at hb1
    rcases List.mem_append.1 hb1 with hb1 | hb1
    · rcases List.mem_append.1 hb1 with hb1 | hb1
      · exact h.pd b hb1 hb2
      · have := f1 b hb1
        omega
    · have := f2 b hb1
      omega
  · rcases List.mem_append.1 hx with hx | hx
    · exact h.pn x hx
    · simp at hx
      rcases hx with rfl | rfl
      · exact m1
      · exact m2
/-- all the rows were written -/
theorem Bk.grewR (h : Bk w1 w N0 N r c rc C wb wc nr rb rp LR m qb qp LP) (hE : Ext (bl LR) w w') : OwnV w' 64 6 (.slice wb N wc) N (rowsT (pre r.t)) ∧ Sp3 w1 w' c rc r C ∧ OwnV w' 41 1 (.slice qb m qp) m (LP.map Rw.v) ∧ Fam w' 3 1 (fun b => N0 ≤ b) LP := by
  have hd := h.ra.rf.bD
  have hv : ∀ b ∈ bl LR, ∃ (n : Nat) (v : Value) (xs : List Value), OwnV w 64 6 v n xs ∧ b ∈ ob v := fun b hb => by
    obtain ⟨k, x, hx, h1⟩ := bl_of hb
    exact ⟨_, _, _, h.ra.rf.own k x hx, h1⟩
  refine ⟨h.want.ext hE fun x hx hm => ?_, h.sp.extV hE (fun b hb => Nat.le_trans h.n0 (hd b hb)) (fun b hb => ?_) (fun b hb hm => ?_), h.po.ext hE fun x hx hm => ?_, h.pf.ext hE fun k x hx b hb hm => ?_⟩
  · have := h.wl x hx
    have := hd x hm
    omega
  · obtain ⟨n, v, xs, h1, h2⟩ := hv b hb
    exact ⟨_, _, _, _, _, h1, h2, by decide, by decide, by decide⟩
  · obtain ⟨n, v, xs, h1, h2⟩ := hv b hb
    exact h1.disj h.sp.pc.row (by decide) b h2 (by rw [ob_oa]; exact hm)
  · obtain ⟨n, v, xs, h1, h2⟩ := hv x hm
    exact h.po.disj h1 (by decide) x hx h2
  · obtain ⟨n, v, xs, h1, h2⟩ := hv b hm
    exact (h.pf.own k x hx).disj h1 (by decide) b hb h2
/-- all the paths were written -/
theorem grewP {v : Value} {n : Nat} {xs : List Value} (hw : OwnV w 64 6 v n xs) (hs : Sp3 w1 w c rc r C) (hf : Fam w 3 1 (fun b => N0 ≤ b) LP) (hd : ∀ b ∈ bl LP, b ∉ oa C.pb) (h0 : w1.heap.size ≤ N0) (hE : Ext (bl LP) w w') : OwnV w' 64 6 v n xs ∧ Sp3 w1 w' c rc r C := by
  have hv : ∀ b ∈ bl LP, ∃ (n : Nat) (v : Value) (xs : List Value), OwnV w 3 1 v n xs ∧ b ∈ ob v := fun b hb => by
    obtain ⟨k, x, hx, h1⟩ := bl_of hb
    exact ⟨_, _, _, hf.own k x hx, h1⟩
  refine ⟨hw.ext hE fun x hx hm => ?_, hs.extV hE (fun b hb => Nat.le_trans h0 (hf.bD b hb)) (fun b hb => ?_) hd⟩
  · obtain ⟨n, v, xs, h1, h2⟩ := hv x hm
    exact hw.disj h1 (by decide) x hx h2
  · obtain ⟨n, v, xs, h1, h2⟩ := hv b hb
    exact ⟨_, _, _, _, _, h1, h2, by decide, by decide, by decide⟩
theorem GrownR_b (h : Bk w1 w N0 N r c rc C wb wc nr rb rp LR m qb qp LP) (h1 : nr ≤ 4) (h2 : N ≤ 1000000000) : Calls Try.prog 48 #[.slice rb nr rp] w fun e w' => e = .returned (.bool true) ∧ Ext (bl LR) w w' := by
  have hl := h.ra.len
  subst hl
  exact GrownRows_any (h.ra.rf.mono fun k x hx b hb => .inl (bl_mem hx b hb)) h.ra.ro (by omega) fun x hx => by rw [h.ra.rm x hx]; exact h2
theorem GrownP_b (hp : OwnV w 41 1 (.slice qb m qp) m (LP.map Rw.v)) (hf : Fam w 3 1 (fun b => N0 ≤ b) LP) (h1 : m ≤ 100) (h2 : ∀ x ∈ LP, x.n ≤ 1000000000) : Calls Try.prog 49 #[.slice qb m qp] w fun e w' => e = .returned (.bool true) ∧ Ext (bl LP) w w' := by
  have hl : LP.length = m := by
    have := hp.len
    simpa using this
  subst hl
  exact GrownInts_any (hf.mono fun k x hx b hb => .inl (bl_mem hx b hb)) hp (by omega) h2
end
theorem rowsT_one : ∀ l : List Tr, oneAll (rowsT l) = true
  | [] => rfl
  | t :: l => by simp only [rowsT, rowT, List.cons_append, List.nil_append, oneAll]; exact rowsT_one l
end Go.Proofs.Ytpglmeeledmkoaa
