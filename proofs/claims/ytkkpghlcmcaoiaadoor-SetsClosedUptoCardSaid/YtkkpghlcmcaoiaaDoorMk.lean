/- What a row that is made tells: its head is in First, if it is empty the name is nullable; what is told of a spec, at a name. -/
import Derived.Test.YtkkpghlcmcaoiaaDoorS24
import Derived.Test.YtkkpghlcmcaoiaaDoorS23
namespace Go.Proofs.YtkkpghlcmcaoiaaDoor
open Go.Vc Go.Gm

theorem MT_emp {G : Gr} {nl : Nat} {r : List Sm} {u : List Nat} (h : MT G nl r u) : u = [] → NuR G r := by
  induction h with
  | nil => intro _ x hx; cases hx
  | t _ _ => intro h; cases h
  | e _ _ => intro h; cases h
  | @m A q r v u hm _ _ ih1 ih2 =>
    intro h
    obtain ⟨h1, h2⟩ := List.append_eq_nil_iff.1 h
    intro x hx
    rcases List.mem_cons.1 hx with rfl | hx
    · refine ⟨A, rfl, .mk A q hm (fun B hB => ?_) (.inr fun x hx => ?_)⟩
      · obtain ⟨B', h3, h4⟩ := ih1 h1 _ hB
        cases h3; exact h4
      · obtain ⟨B', h3, _⟩ := ih1 h1 _ hx
        rw [h3]; rfl
    · exact ih2 h2 x hx
theorem MT_head {G : Gr} {nl : Nat} {r : List Sm} {u : List Nat} (h : MT G nl r u) : ∀ {a v}, u = a :: v → FiR G nl r a := by
  induction h with
  | nil => intro a v h; cases h
  | t _ _ => intro a v h; cases h; exact .t
  | e _ _ => intro a v h; cases h; exact .e
  | @m A q r v u hm hq _ ih1 ih2 =>
    intro a v' h
    cases v with
    | nil =>
      have hn := MT_emp hq rfl
      refine .skip (.mk A q hm (fun B hB => ?_) (.inr fun x hx => ?_)) (ih2 h)
      · obtain ⟨B', h3, h4⟩ := hn _ hB
        cases h3; exact h4
      · obtain ⟨B', h3, _⟩ := hn _ hx
        rw [h3]; rfl
    | cons b v =>
      cases h
      exact .m hm (ih1 rfl)
theorem MN_nil {G : Gr} {nl A : Nat} (h : MN G nl A []) : Der G false A := by
  obtain ⟨q, hm, hq⟩ := h
  have hn := MT_emp hq rfl
  refine .mk A q hm (fun B hB => ?_) (.inr fun x hx => ?_)
  · obtain ⟨B', h3, h4⟩ := hn _ hB
    cases h3; exact h4
  · obtain ⟨B', h3, _⟩ := hn _ hx
    rw [h3]; rfl
theorem MN_head {G : Gr} {nl A a : Nat} {v : List Nat} (h : MN G nl A (a :: v)) : FiN G nl A a := by
  obtain ⟨q, hm, hq⟩ := h
  exact ⟨q, hm, MT_head hq rfl⟩
theorem FirR.has {S : Sp} {ls : List (List Nat)} (h : FirR S ls) {A a : Nat} {l : List Nat} (hl : ls[A]? = some l) : a ∈ l ↔ FiN S.g S.nl A a := by
  obtain ⟨fs, rfl, _, hk, hFF⟩ := h
  rw [List.getElem?_map] at hl
  obtain ⟨s, hs, rfl⟩ := Option.map_eq_some_iff.1 hl
  rw [mem_tls (hk s (List.mem_of_getElem? hs)), ← hFF.iff A a]
  unfold hF
  rw [gF_at hs]
theorem TdOk.extT {S : Sp} {N : Nat} {w w' : World} {T : Td} (h : TdOk S N w T) {b t : Nat} {cs : Array Value} (hE : Ext [b] w w') (hB : Blk w b t cs) (h1 : 51 ≠ t) (h2 : 3 ≠ t) (h3 : 4 ≠ t) : TdOk S N w' T :=
  ⟨h.re.ext hE (by simpa using h.re.ne_type hB h3), h.ne, h.isE, h.lf.extT hE hB h1 h2, h.isF, h.lw.extT hE hB h1 h2, h.isW, h.ly.extT hE hB h1 h2, h.isY, h.afw, h.afy, h.awy⟩
theorem TdOk.yld {S : Sp} {N : Nat} {w : World} {T : Td} (h : TdOk S N w T) (hf : T.full = false) : T.yn = S.ns.length ∧ YldR S T.yl := by
  obtain ⟨k, x, ⟨vs, hv, h1 | h1⟩, h2⟩ := h.isY
  · have := h2.2 h1.1; rw [hf] at this; cases this
  · exact ⟨h1.2.2.2.1, h1.2.2.2.2⟩
theorem Lsts.at' {N : Nat} {w : World} {bs : Option Addr} {n cp : Nat} {L : List Rw} {ls : List (List Nat)} (h : Lsts N w bs n cp L ls) {k : Nat} {l : List Nat} (hk : ls[k]? = some l) : ∃ u, (L.map Rw.v)[k]? = some u ∧ RdV w 1 u l.length (ivs l) := by
  have hl := h.len
  obtain ⟨x, hx⟩ : ∃ x, L[k]? = some x := ⟨_, List.getElem?_eq_getElem (by have := (List.getElem?_eq_some_iff.1 hk).1; omega)⟩
  have he := congrArg (fun l => l[k]?) h.is
  simp only [List.getElem?_map, hx, hk, Option.map_some, Option.some.injEq, Prod.mk.injEq] at he
  refine ⟨x.v, by rw [List.getElem?_map, hx]; rfl, ?_⟩
  have := (h.fam.own k x hx).rd
  rw [he.1, he.2] at this
  exact this
theorem has_true {w : World} {v : Value} {n : Nat} {xs : List Nat} {q : Nat} (hq : q ∈ xs) (hv : RdV w 1 v n (ivs xs)) (hn : n ≤ 1048576) : Calls Tryd.prog 29 #[v, I6 (q : Int)] w fun e w' => e = .returned (.bool true) ∧ Ext [] w w' := by
  refine (has_any q hv hn).mono ?_
  rintro e w' ⟨h1, h2⟩
  exact ⟨by rw [h1, decide_eq_true hq], h2⟩
theorem Less_false {w : World} {v u : Value} {n m : Nat} {xs ys : List Nat} (h : ¬less xs ys) (hv : RdV w 1 v n (ivs xs)) (hu : RdV w 1 u m (ivs ys)) (hn : n ≤ 1048576) : Calls Tryd.prog 30 #[v, u] w fun e w' => e = .returned (.bool false) ∧ Ext [] w w' := by
  refine (Less_any hv hu hn).mono ?_
  rintro e w' ⟨h1, h2⟩
  exact ⟨by rw [h1, decide_eq_false h], h2⟩
/-- the blocks of what is told -/
def Td.blks (T : Td) : List Nat := T.eg :: ((oa T.fb ++ bl T.fL) ++ ((oa T.wb ++ bl T.wL) ++ (oa T.yb ++ bl T.yL)))
theorem Lsts.extD {N : Nat} {w w' : World} {bs : Option Addr} {n cp : Nat} {L : List Rw} {ls : List (List Nat)} {M : List Nat} (h : Lsts N w bs n cp L ls) (hE : Ext M w w') (hM : ∀ x ∈ oa bs ++ bl L, x ∉ M) : Lsts N w' bs n cp L ls :=
  ⟨h.own.ext hE fun b hb => hM b (List.mem_append.2 (.inl (by rw [← ob_oa]; exact hb))), h.new, h.fam.ext hE fun _ _ hx b hb => hM b (List.mem_append.2 (.inr (bl_mem hx b hb))), h.is⟩
theorem TdOk.extD {S : Sp} {N : Nat} {w w' : World} {T : Td} {M : List Nat} (h : TdOk S N w T) (hE : Ext M w w') (hM : ∀ x ∈ T.blks, x ∉ M) : TdOk S N w' T :=
  ⟨h.re.ext hE (hM _ (by simp [Td.blks])), h.ne, h.isE, h.lf.extD hE (fun x hx => hM x (List.mem_cons_of_mem _ (List.mem_append.2 (.inl hx)))), h.isF,
    h.lw.extD hE (fun x hx => hM x (List.mem_cons_of_mem _ (List.mem_append.2 (.inr (List.mem_append.2 (.inl hx)))))), h.isW,
    h.ly.extD hE (fun x hx => hM x (List.mem_cons_of_mem _ (List.mem_append.2 (.inr (List.mem_append.2 (.inr hx)))))), h.isY, h.afw, h.afy, h.awy⟩
theorem TdOk.lie {S : Sp} {N : Nat} {w : World} {T : Td} (h : TdOk S N w T) : ∀ x ∈ T.blks, x < w.heap.size := fun x hx => by
  rcases List.mem_cons.1 hx with h1 | h1
  · rw [h1]; obtain ⟨cur, hB, _⟩ := h.re.row; exact hB.lt
  · rcases List.mem_append.1 h1 with h1 | h1
    · exact h.lf.lie x h1
    · rcases List.mem_append.1 h1 with h1 | h1
      · exact h.lw.lie x h1
      · exact h.ly.lie x h1
theorem FolR.at {S : Sp} {ls : List (List Nat)} (h : FolR S ls) {A a : Nat} (hf : Fo S.g S.nl S.st.toNat A a) : ∃ l, ls[A]? = some l ∧ a ∈ l := by
  obtain ⟨fs, rfl, _, hk, hO⟩ := h
  have h1 : hF fs A a := (hO.iff A a).2 hf
  unfold hF at h1
  cases hA : fs[A]? with
  | none => simp [gF, hA, has_none] at h1
  | some s =>
    rw [gF_at hA] at h1
    exact ⟨tls s, by rw [List.getElem?_map, hA]; rfl, (mem_tls (hk s (List.mem_of_getElem? hA))).2 h1⟩
end Go.Proofs.YtkkpghlcmcaoiaaDoor
