/- A forest of both: what lies in the heap, and how it grows. -/
import Derived.Test.YtpglmeeledmkoaaT23
namespace Go.Proofs.Ytpglmeeledmkoaa
open Go.Vc

structure Fo where
  fb : Nat
  s0 : Nat
  s1 : Nat
  c0 : Int
  c1 : Int
  pb : Option Addr
  pc : Nat
  qb : Option Addr
  qc : Nat
  bb : Option Addr
  bn : Nat
  bc : Nat
  L : List Rf

/-- N: below it nothing is written; m: of so many steps -/
structure FI (N m : Nat) (w : World) (F : Fo) : Prop where
  f : Blk w F.fb 35 #[.pointer (some ⟨F.s0, 0, none⟩), .pointer (some ⟨F.s1, 0, none⟩), .slice F.pb F.L.length F.pc, .slice F.qb F.L.length F.qc, .slice F.bb F.bn F.bc]
  h0 : Blk w F.s0 102 #[.int .i64 F.c0]
  h1 : Blk w F.s1 102 #[.int .i64 F.c1]
  ne : F.s0 ≠ F.s1
  P : OwnV w 47 1 (.slice F.pb F.L.length F.pc) F.L.length (F.L.map fun r => r.t.ptr)
  R : OwnV w 29 1 (.slice F.qb F.L.length F.qc) F.L.length (F.L.map Rf.ptr)
  B : ∃ xs, OwnV w 47 1 (.slice F.bb F.bn F.bc) F.bn xs
  ok : FOk w F.s0 F.s1 F.L
  num : ∀ r ∈ F.L, 1 ≤ r.t.num ∧ r.t.num ≤ (if r.k = 0 then F.c0 else F.c1)
  inj : ∀ (i j : Nat) (ri rj : Rf), i < j → F.L[i]? = some ri → F.L[j]? = some rj → ri.k = rj.k → ri.t.num < rj.t.num
  cb : 0 ≤ F.c0 ∧ 0 ≤ F.c1 ∧ F.c0 + F.c1 ≤ m ∧ F.L.length ≤ m
  dP : ∀ x ∈ oa F.pb, ¬FFoot F.L x ∧ x ∉ oa F.bb
  dR : ∀ x ∈ oa F.qb, ¬FFoot F.L x
  dB : ∀ x ∈ oa F.bb, ¬FFoot F.L x
  nw : N ≤ F.fb ∧ N ≤ F.s0 ∧ N ≤ F.s1 ∧ (∀ x ∈ oa F.pb, N ≤ x) ∧ (∀ x ∈ oa F.qb, N ≤ x) ∧ (∀ x ∈ oa F.bb, N ≤ x)

section
variable {N m : Nat} {w w' : World} {F : Fo} {M : List Nat}

theorem _root_.Go.Vc.OwnV.oaBlk {w : World} {e : TypeId} {size n c x : Nat} {b : Option Addr} {xs : List Value} (h : OwnV w e size (.slice b n c) n xs) (hx : x ∈ oa b) : ∃ cs, Blk w x e cs := OwnV.obBlk h (by rw [ob_oa]; exact hx)
theorem _root_.Go.Vc.OwnV.extO {w w' : World} {e : TypeId} {size n c : Nat} {b : Option Addr} {xs : List Value} {M : List Nat} (h : OwnV w e size (.slice b n c) n xs) (hE : Ext M w w') (hM : ∀ x ∈ oa b, x ∉ M) : OwnV w' e size (.slice b n c) n xs :=
  h.ext hE (fun x hx => hM x (by rw [ob_oa] at hx; exact hx))

theorem FI.ext (h : FI N m w F) (hE : Ext M w w') (a1 : F.fb ∉ M) (a2 : F.s0 ∉ M) (a3 : F.s1 ∉ M) (a4 : ∀ x ∈ oa F.pb, x ∉ M) (a5 : ∀ x ∈ oa F.qb, x ∉ M) (a6 : ∀ x ∈ oa F.bb, x ∉ M) (a7 : ∀ x ∈ M, ¬FFoot F.L x) : FI N m w' F :=
  { f := h.f.ext hE a1, h0 := h.h0.ext hE a2, h1 := h.h1.ext hE a3, ne := h.ne, P := h.P.extO hE a4, R := h.R.extO hE a5, B := h.B.elim fun xs hb => ⟨xs, hb.extO hE a6⟩,
    ok := h.ok.ext hE a7, num := h.num, inj := h.inj, cb := h.cb, dP := h.dP, dR := h.dR, dB := h.dB, nw := h.nw }
theorem FI.ext0 (h : FI N m w F) (hE : Ext [] w w') : FI N m w' F := h.ext hE (by simp) (by simp) (by simp) (by simp) (by simp) (by simp) (by simp)
theorem FI.mono (h : FI N m w F) {m' : Nat} (hm : m ≤ m') : FI N m' w F := { h with cb := by have := h.cb; omega }

/-- what is written is of the buffer alone -/
theorem FI.buf (h : FI N m w F) {g : Nat} (hg : F.bb = some ⟨g, 0, none⟩) (hE : Ext [g] w w') {k : Nat} {ys : List Value} (hO : OwnR w' 47 1 g F.bc k ys) (hn : F.bn ≤ F.bc) : FI N m w' F := by
  have hmem : g ∈ oa F.bb := by rw [hg]; simp [oa]
  obtain ⟨xs, hB⟩ := h.B
  obtain ⟨cs, hb⟩ := hB.oaBlk hmem
  have ne : ∀ {T : TypeId} {cs' : Array Value} {x : Nat}, Blk w x T cs' → T ≠ 47 → x ∉ [g] := fun h1 h2 hm => by
    obtain rfl := (by simpa using hm : _ = g)
    exact h2 (h1.same hb).1
  obtain ⟨ys', hO'⟩ := hO.any hn
  refine {
    f := h.f.ext hE (ne h.f (by decide)), h0 := h.h0.ext hE (ne h.h0 (by decide)), h1 := h.h1.ext hE (ne h.h1 (by decide)), ne := h.ne, P := h.P.extO hE ?_, R := h.R.extO hE ?_, B := ⟨ys', ?_⟩,
    ok := h.ok.ext hE ?_, num := h.num, inj := h.inj, cb := h.cb, dP := h.dP, dR := h.dR, dB := h.dB, nw := h.nw }
  · intro x hx hm
    obtain rfl := (by simpa using hm : x = g)
    exact (h.dP x hx).2 hmem
  · intro x hx
    obtain ⟨cs', h1⟩ := h.R.oaBlk hx
    exact ne h1 (by decide)
  · rw [hg]; exact hO'.v
  · intro x hx
    obtain rfl := (by simpa using hx : x = g)
    exact h.dB x hmem

/-- room is taken -/
theorem FI.mem (h : FI N m w F) (hN : N ≤ w.heap.size) {g c k n : Nat} {ys : List Value} (hb : Blk w' F.fb 35 #[.pointer (some ⟨F.s0, 0, none⟩), .pointer (some ⟨F.s1, 0, none⟩), .slice F.pb F.L.length F.pc, .slice F.qb F.L.length F.qc, .slice (some ⟨g, 0, none⟩) k c])
    (hO : OwnR w' 47 1 g c k ys) (hE : Ext [F.fb] w w') (hg : F.bb = some ⟨g, 0, none⟩ ∨ w.heap.size ≤ g) (_ : n ≤ k) : FI N m w' { F with bb := some ⟨g, 0, none⟩, bn := k, bc := c } := by
  have ne : ∀ {T : TypeId} {cs' : Array Value} {x : Nat}, Blk w x T cs' → T ≠ 35 → x ∉ [F.fb] := fun h1 h2 hm => by
    obtain rfl := (by simpa using hm : _ = F.fb)
    exact h2 (h1.same h.f).1
  have hgN : N ≤ g ∧ ¬FFoot F.L g ∧ g ∉ oa F.pb := by
    rcases hg with hg | hg
    · have hm : g ∈ oa F.bb := by rw [hg]; simp [oa]
      exact ⟨h.nw.2.2.2.2.2 g hm, h.dB g hm, fun hp => (h.dP g hp).2 hm⟩
    · refine ⟨Nat.le_trans hN hg, fun hf => ?_, fun hp => ?_⟩
      · have := h.ok.foot_lt hf; omega
      · obtain ⟨cs, hb⟩ := h.P.oaBlk hp
        have := hb.lt; omega
  refine {
    f := hb, h0 := h.h0.ext hE (ne h.h0 (by decide)), h1 := h.h1.ext hE (ne h.h1 (by decide)), ne := h.ne, P := h.P.extO hE ?_, R := h.R.extO hE ?_, B := ⟨ys, hO.v⟩,
    ok := h.ok.ext hE ?_, num := h.num, inj := h.inj, cb := h.cb, dP := ?_, dR := h.dR, dB := ?_, nw := ⟨h.nw.1, h.nw.2.1, h.nw.2.2.1, h.nw.2.2.2.1, h.nw.2.2.2.2.1, ?_⟩ }
  · intro x hx
    obtain ⟨cs', h1⟩ := h.P.oaBlk hx
    exact ne h1 (by decide)
  · intro x hx
    obtain ⟨cs', h1⟩ := h.R.oaBlk hx
    exact ne h1 (by decide)
  · intro x hx
    obtain rfl := (by simpa using hx : x = F.fb)
    exact h.ok.not_foot h.f (by decide)
  · intro x hx
    refine ⟨(h.dP x hx).1, fun hm => ?_⟩
    obtain rfl := (by simpa [oa] using hm : x = g)
    exact hgN.2.2 hx
  · intro x hx
    obtain rfl := (by simpa [oa] using hx : x = g)
    exact hgN.2.1
  · intro x hx
    obtain rfl := (by simpa [oa] using hx : x = g)
    exact hgN.1

/-- a store has given out a number more -/
def Fo.cOf (F : Fo) (k : Int) : Int := if k = 0 then F.c0 else F.c1
def Fo.bump (F : Fo) (k : Int) : Fo := if k = 0 then { F with c0 := F.c0 + 1 } else { F with c1 := F.c1 + 1 }
theorem FI.sblk (h : FI N m w F) (k : Int) : Blk w (sOf F.s0 F.s1 k) 102 #[.int .i64 (F.cOf k)] := by
  unfold sOf Fo.cOf; split
  · exact h.h0
  · exact h.h1
theorem FI.bump (h : FI N m w F) {k : Int} (hb : Blk w' (sOf F.s0 F.s1 k) 102 #[.int .i64 (F.cOf k + 1)]) (hE : Ext [sOf F.s0 F.s1 k] w w') : FI N (m + 1) w' (F.bump k) := by
  have hs := h.sblk k
  have ne : ∀ {T : TypeId} {cs' : Array Value} {x : Nat}, Blk w x T cs' → T ≠ 102 → x ∉ [sOf F.s0 F.s1 k] := fun h1 h2 hm => by
    obtain rfl := (by simpa using hm : _ = sOf F.s0 F.s1 k)
    exact h2 (h1.same hs).1
  have hP := h.P.extO hE (fun x hx => by obtain ⟨cs', h1⟩ := h.P.oaBlk hx; exact ne h1 (by decide))
  have hR := h.R.extO hE (fun x hx => by obtain ⟨cs', h1⟩ := h.R.oaBlk hx; exact ne h1 (by decide))
  have hB : ∃ xs, OwnV w' 47 1 (.slice F.bb F.bn F.bc) F.bn xs := h.B.elim fun xs hb => ⟨xs, hb.extO hE (fun x hx => by obtain ⟨cs', h1⟩ := hb.oaBlk hx; exact ne h1 (by decide))⟩
  have hok := h.ok.ext hE (fun x hx => by
    obtain rfl := (by simpa using hx : x = sOf F.s0 F.s1 k)
    exact h.ok.not_foot hs (by decide))
  have hf := h.f.ext hE (ne h.f (by decide))
  have hcb := h.cb
  unfold Fo.bump
  by_cases hk : k = 0
  · subst hk
    have h1 : Blk w' F.s1 102 #[.int .i64 F.c1] := h.h1.ext hE (by simp [sOf]; exact fun e => h.ne e.symm)
    exact {
            f := hf, h0 := hb, h1 := h1, ne := h.ne, P := hP, R := hR, B := hB, ok := hok, num := fun r hr => by have := h.num r hr; simp only [if_true] at this ⊢; split at this <;> simp_all <;> omega,
            inj := h.inj, cb := by simp only [if_true]; omega, dP := h.dP, dR := h.dR, dB := h.dB, nw := h.nw }
  · have hb' : Blk w' F.s1 102 #[.int .i64 (F.c1 + 1)] := by simpa [sOf, Fo.cOf, hk] using hb
    have h0 : Blk w' F.s0 102 #[.int .i64 F.c0] := h.h0.ext hE (by simp [sOf, hk]; exact h.ne)
    rw [if_neg hk]
    exact {
            f := hf, h0 := h0, h1 := hb', ne := h.ne, P := hP, R := hR, B := hB, ok := hok, num := fun r hr => by have := h.num r hr; simp only at this ⊢; split at this <;> simp_all <;> omega,
            inj := h.inj, cb := by simp only; omega, dP := h.dP, dR := h.dR, dB := h.dB, nw := h.nw }

/-- the new node lies apart: all of it is new -/
theorem Tr.foot_new {b : Nat} {num kd nn lk ls ll lr wd lf tt : Int} {vs : Value} {fl : Bool} {kids : List Tr} {x : Nat} (hx : (Tr.node b num kd nn lk ls ll lr vs wd lf tt fl kids).Foot x) : x = b ∨ x ∈ ob vs ∨ ∃ t ∈ kids, t.Foot x := by
  rcases (Tr.foot_iff _ x).1 hx with h | h | h
  · exact .inl h
  · exact .inr (.inl h)
  · exact .inr (.inr (foots_iff.1 h))

/-- a node more: t and its row rb, not in the forest yet, of children that are -/
theorem FI.add (h : FI N m w F) {k kd nn lk ls ll lr wd lf tt num : Int} {fl : Bool} {tb rb W0 : Nat} {vs kv : Value} {rs : List Rf} {ga ca gb cb : Nat} (hN : N ≤ W0)
    (hk : k = 0 ∨ k = 1) (hok : (Tr.node tb num kd nn lk ls ll lr vs wd lf tt fl (rs.map Rf.t)).Ok w (sOf F.s0 F.s1 k)) (hrb : ∃ z, Blk w rb 40 #[.int .i64 k, .int .i64 z, .int .i64 kd, .int .i64 nn, .int .i64 lk, .int .i64 ls, .int .i64 ll, .int .i64 lr, kv, .int .i64 tt])
    (hkv : OwnV w 29 1 kv rs.length (rs.map Rf.ptr)) (hin : ∀ r ∈ rs, F.L[r.i]? = some r) (hnum : 1 ≤ num ∧ num ≤ F.cOf k ∧ ∀ r ∈ F.L, r.k = k → r.t.num < num) (hL : F.L.length + 1 ≤ m)
    (nt : W0 ≤ tb ∧ (∀ b ∈ ob vs, W0 ≤ b) ∧ W0 ≤ rb ∧ (∀ b ∈ ob kv, W0 ≤ b)) (od : (∀ x ∈ oa F.pb, x < W0) ∧ (∀ x ∈ oa F.qb, x < W0) ∧ (∀ x ∈ oa F.bb, x < W0) ∧ (∀ x, FFoot F.L x → x < W0))
    (b1 : Blk w' F.fb 35 #[.pointer (some ⟨F.s0, 0, none⟩), .pointer (some ⟨F.s1, 0, none⟩), .slice (some ⟨ga, 0, none⟩) (F.L.length + 1) ca, .slice (some ⟨gb, 0, none⟩) (F.L.length + 1) cb, .slice F.bb F.bn F.bc])
    (b2 : OwnR w' 47 1 ga ca (F.L.length + 1) ((F.L.map fun r => r.t.ptr) ++ [.pointer (some ⟨tb, 0, none⟩)])) (b3 : OwnR w' 29 1 gb cb (F.L.length + 1) ((F.L.map Rf.ptr) ++ [.pointer (some ⟨rb, 0, none⟩)]))
    (b4 : Blk w' rb 40 #[.int .i64 k, .int .i64 (F.L.length : Int), .int .i64 kd, .int .i64 nn, .int .i64 lk, .int .i64 ls, .int .i64 ll, .int .i64 lr, kv, .int .i64 tt]) (hE : Ext (F.fb :: rb :: (oa F.pb ++ oa F.qb)) w w')
    (fa : ga ∈ oa F.pb ∨ w.heap.size ≤ ga) (fb : gb ∈ oa F.qb ∨ w.heap.size ≤ gb) :
    FI N m w' { F with pb := some ⟨ga, 0, none⟩, pc := ca, qb := some ⟨gb, 0, none⟩, qc := cb, L := F.L ++ [.node k F.L.length rb kv (.node tb num kd nn lk ls ll lr vs wd lf tt fl (rs.map Rf.t)) rs] } := by
  obtain ⟨z, hrb⟩ := hrb
  have hfb := h.f
  have nin : ∀ {x : Nat} {T : TypeId} {cs : Array Value}, Blk w x T cs → T ≠ 35 → T ≠ 40 → (x ∉ oa F.pb) → (x ∉ oa F.qb) → x ∉ F.fb :: rb :: (oa F.pb ++ oa F.qb) := by
    intro x T cs h1 h2 h3 h4 h5 hm
    simp only [List.mem_cons, List.mem_append] at hm
    rcases hm with rfl | rfl | hm | hm
    · exact h2 (h1.same hfb).1
    · exact h3 (h1.same hrb).1
    · exact h4 hm
    · exact h5 hm
  have tyP : ∀ {x : Nat} {T : TypeId} {cs : Array Value}, Blk w x T cs → T ≠ 47 → x ∉ oa F.pb := fun h1 h2 hx => by obtain ⟨cs', h3⟩ := h.P.oaBlk hx; exact h2 (h1.same h3).1
  have tyR : ∀ {x : Nat} {T : TypeId} {cs : Array Value}, Blk w x T cs → T ≠ 29 → x ∉ oa F.qb := fun h1 h2 hx => by obtain ⟨cs', h3⟩ := h.R.oaBlk hx; exact h2 (h1.same h3).1
  have hgaL : ∀ x, FFoot F.L x → x ≠ ga := fun x hx e => by
    subst e
    rcases fa with h1 | h1
    · exact (h.dP x h1).1 hx
    · have := h.ok.foot_lt hx; omega
  have hgbL : ∀ x, FFoot F.L x → x ≠ gb := fun x hx e => by
    subst e
    rcases fb with h1 | h1
    · exact h.dR x h1 hx
    · have := h.ok.foot_lt hx; omega
  have hga0 : ga < W0 ∨ w.heap.size ≤ ga := fa.imp (od.1 ga) id
  have hgb0 : gb < W0 ∨ w.heap.size ≤ gb := fb.imp (od.2.1 gb) id
  have newlt : ∀ x, (x = tb ∨ x ∈ ob vs ∨ x = rb ∨ x ∈ ob kv) → W0 ≤ x ∧ x < w.heap.size := by
    intro x hx
    have hbt : Blk w tb 106 _ := hok.blk
    have hv : OwnV w 47 1 vs _ _ := hok.arr
    rcases hx with rfl | hx | rfl | hx
    · exact ⟨nt.1, hbt.lt⟩
    · exact ⟨nt.2.1 x hx, hv.lie x hx⟩
    · exact ⟨nt.2.2.1, hrb.lt⟩
    · exact ⟨nt.2.2.2 x hx, hkv.lie x hx⟩
  have hrsF : ∀ r ∈ rs, r ∈ F.L := fun r hr => List.mem_of_getElem? (hin r hr)
  have hFnew : ∀ x, FFoot (F.L ++ [.node k F.L.length rb kv (.node tb num kd nn lk ls ll lr vs wd lf tt fl (rs.map Rf.t)) rs]) x → FFoot F.L x ∨ (x = tb ∨ x ∈ ob vs ∨ x = rb ∨ x ∈ ob kv) := by
    rintro x ⟨r, hr, hx⟩
    rcases List.mem_append.1 hr with hr | hr
    · exact .inl ⟨r, hr, hx⟩
    · obtain rfl := (by simpa using hr : r = _)
      rcases hx with hx | hx | hx
      · rcases Tr.foot_new hx with hx | hx | ⟨t, ht, hx⟩
        · exact .inr (.inl hx)
        · exact .inr (.inr (.inl hx))
        · obtain ⟨q, hq, rfl⟩ := List.mem_map.1 ht
          exact .inl ⟨q, hrsF q hq, .inl hx⟩
      · exact .inr (.inr (.inr (.inl hx)))
      · exact .inr (.inr (.inr (.inr hx)))
  have hnotM : ∀ x ∈ F.fb :: rb :: (oa F.pb ++ oa F.qb), ¬FFoot F.L x := by
    intro x hx hf
    simp only [List.mem_cons, List.mem_append] at hx
    rcases hx with rfl | rfl | hx | hx
    · exact h.ok.not_foot hfb (by decide) hf
    · have := od.2.2.2 x hf; have := nt.2.2.1; omega
    · exact (h.dP x hx).1 hf
    · exact h.dR x hx hf
  have hokL := h.ok.ext hE hnotM
  have hkvE : OwnV w' 29 1 kv rs.length (rs.map Rf.ptr) := hkv.ext hE (fun x hx => by
    obtain ⟨cs, h1⟩ := OwnV.obBlk hkv hx
    refine nin h1 (by decide) (by decide) (tyP h1 (by decide)) fun hq => ?_
    have := od.2.1 x hq; have := nt.2.2.2 x hx; omega)
  have hokE := hok.ext hE _ (fun x hx hf => by
    simp only [List.mem_cons, List.mem_append] at hx
    have hfx : FFoot F.L x ∨ x = tb ∨ x ∈ ob vs := by
      rcases Tr.foot_new hf with hf | hf | ⟨t, ht, hf⟩
      · exact .inr (.inl hf)
      · exact .inr (.inr hf)
      · obtain ⟨q, hq, rfl⟩ := List.mem_map.1 ht
        exact .inl ⟨q, hrsF q hq, .inl hf⟩
    rcases hx with rfl | rfl | hx | hx
    · exact hok.not_foot hfb (by decide) (by decide) hf
    · exact hok.not_foot hrb (by decide) (by decide) hf
    · rcases hfx with h1 | rfl | h1
      · exact (h.dP x hx).1 h1
      · have := od.1 x hx; have := nt.1; omega
      · have := od.1 x hx; have := nt.2.1 x h1; omega
    · rcases hfx with h1 | rfl | h1
      · exact h.dR x hx h1
      · have := od.2.1 x hx; have := nt.1; omega
      · have := od.2.1 x hx; have := nt.2.1 x h1; omega)
  have hlen : (F.L ++ [Rf.node k F.L.length rb kv (.node tb num kd nn lk ls ll lr vs wd lf tt fl (rs.map Rf.t)) rs]).length = F.L.length + 1 := by simp
  have hatL : ∀ (i : Nat) (r : Rf), F.L[i]? = some r → (F.L ++ [Rf.node k F.L.length rb kv (.node tb num kd nn lk ls ll lr vs wd lf tt fl (rs.map Rf.t)) rs])[i]? = some r := fun i r hr => by
    rw [List.getElem?_append_left (List.getElem?_eq_some_iff.1 hr).1]; exact hr
  refine { f := by simpa using b1, h0 := ?_, h1 := ?_, ne := h.ne, P := by simpa [Tr.ptr, Rf.t, Tr.b] using b2.v, R := by simpa [Rf.ptr, Rf.rb] using b3.v, B := h.B.elim fun xs hb => ⟨xs, hb.extO hE ?_⟩, ok := ⟨?_, ?_⟩, num := ?_, inj := ?_, cb := ?_, dP := ?_, dR := ?_, dB := ?_, nw := ?_ }
  · exact h.h0.ext hE (nin h.h0 (by decide) (by decide) (tyP h.h0 (by decide)) (tyR h.h0 (by decide)))
  · exact h.h1.ext hE (nin h.h1 (by decide) (by decide) (tyP h.h1 (by decide)) (tyR h.h1 (by decide)))
  · intro x hx
    obtain ⟨cs, h1⟩ := hb.oaBlk hx
    exact nin h1 (by decide) (by decide) (fun hp => (h.dP x hp).2 hx) (tyR h1 (by decide))
  · intro i r hr
    rcases Nat.lt_or_ge i F.L.length with hi | hi
    · rw [List.getElem?_append_left hi] at hr
      exact h.ok.ix i r hr
    · rw [List.getElem?_append_right hi] at hr
      have hi0 : i - F.L.length = 0 := by
        have := (List.getElem?_eq_some_iff.1 hr).1
        simp at this; omega
      rw [hi0] at hr
      obtain rfl := (by simpa using hr.symm : r = _)
      show F.L.length = i
      omega
  · intro r hr
    rcases List.mem_append.1 hr with hr | hr
    · have h1 := hokL.one r hr
      exact ⟨h1.kk, h1.ok, h1.blk, h1.row, h1.kt, fun q hq => hatL _ _ (h1.kin q hq), by rw [hlen]; exact Nat.lt_succ_of_lt h1.ki⟩
    · obtain rfl := (by simpa using hr : r = _)
      exact ⟨hk, hokE, b4, hkvE, rfl, fun q hq => hatL _ _ (hin q hq), by rw [hlen]; exact Nat.lt_succ_self _⟩
  · intro r hr
    rcases List.mem_append.1 hr with hr | hr
    · exact h.num r hr
    · obtain rfl := (by simpa using hr : r = _)
      exact ⟨hnum.1, hnum.2.1⟩
  · intro i j ri rj hij hi hj hkk
    rcases Nat.lt_or_ge j F.L.length with hjl | hjl
    · rw [List.getElem?_append_left hjl] at hj
      rw [List.getElem?_append_left (by omega)] at hi
      exact h.inj i j ri rj hij hi hj hkk
    · have hil : i < F.L.length := by
        have := (List.getElem?_eq_some_iff.1 hj).1
        simp at this; omega
      rw [List.getElem?_append_left hil] at hi
      rw [List.getElem?_append_right hjl] at hj
      have hj0 : j - F.L.length = 0 := by
        have := (List.getElem?_eq_some_iff.1 hj).1
        simp at this; omega
      rw [hj0] at hj
      obtain rfl := (by simpa using hj.symm : rj = _)
      exact hnum.2.2 ri (List.mem_of_getElem? hi) hkk
  · have := h.cb
    simp only [hlen]
    omega
  · intro x hx
    obtain rfl := (by simpa [oa] using hx : x = ga)
    refine ⟨fun hf => ?_, fun hm => ?_⟩
    · rcases hFnew x hf with hf | hf
      · exact hgaL x hf rfl
      · have := newlt x hf; omega
    · rcases fa with h1 | h1
      · exact (h.dP x h1).2 hm
      · obtain ⟨xs, hb⟩ := h.B
        obtain ⟨cs, h2⟩ := hb.oaBlk hm
        have := h2.lt; omega
  · intro x hx hf
    obtain rfl := (by simpa [oa] using hx : x = gb)
    rcases hFnew x hf with hf | hf
    · exact hgbL x hf rfl
    · have := newlt x hf; omega
  · intro x hx hf
    rcases hFnew x hf with hf | hf
    · exact h.dB x hx hf
    · have := newlt x hf; have := od.2.2.1 x hx; omega
  · have hNw : N ≤ w.heap.size := Nat.le_trans hN (Nat.le_of_lt (Nat.lt_of_le_of_lt nt.2.2.1 hrb.lt))
    refine ⟨h.nw.1, h.nw.2.1, h.nw.2.2.1, fun x hx => ?_, fun x hx => ?_, h.nw.2.2.2.2.2⟩
    · obtain rfl := (by simpa [oa] using hx : x = ga)
      rcases fa with h1 | h1
      · exact h.nw.2.2.2.1 x h1
      · omega
    · obtain rfl := (by simpa [oa] using hx : x = gb)
      rcases fb with h1 | h1
      · exact h.nw.2.2.2.2.1 x h1
      · omega
end
end Go.Proofs.Ytpglmeeledmkoaa
