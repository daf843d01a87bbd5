/- A way through a rope's pieces, as a ghost over the world. -/
import Derived.Test.YtkdbfjomjlhfbaaR8
namespace Go.Proofs.Ytkdbfjomjlhfbaa
open Go.Vc
set_option linter.unusedSectionVars false
variable [Inhabited Zt]

def Nd.ptr (t : Nd) : Value := Pv t.b
/-- the bytes of parts that are still to come, the next one last -/
def rst (st : List Nd) : List Int := st.reverse.flatMap Nd.bs
theorem rst_snoc (st : List Nd) (t : Nd) : rst (st ++ [t]) = t.bs ++ rst st := by simp [rst]
theorem rst_len {w : World} : ∀ (st : List Nd), (∀ t ∈ st, t.Ok w) → st.length ≤ (rst st).length
  | [], _ => by simp
  | t :: st, h => by
    have h1 := rst_len st fun s hs => h s (by simp [hs])
    have h2 := (h t (by simp)).pos
    have h3 : rst (t :: st) = rst st ++ t.bs := by simp [rst]
    rw [h3, List.length_append, Nd.len, List.length_cons]
    omega

/-- block wb is a way: what is left of the piece, and the parts behind it; its rows are no elder than N, the parts no younger -/
structure Wy (F : Nat → Prop) (N : Nat) (w : World) (wb : Nat) (pv lv : Value) (ys : List Int) (st : List Nd) : Prop where
  blk : Blk w wb 105 #[pv, lv]
  rd : RdV w 1 pv ys.length (bv ys)
  own : OwnV w 81 1 lv st.length (st.map Nd.ptr)
  ok : ∀ t ∈ st, t.Ok w
  br : BR ys
  fN : ∀ t ∈ st, ∀ x, t.Foot x → F x
  pN : ∀ b ∈ ob pv, F b
  wN : N ≤ wb
  lN : ∀ b ∈ ob lv, N ≤ b
  FN : ∀ x, F x → x < N

theorem Wy.ext {F : Nat → Prop} {N : Nat} {w w' : World} {wb : Nat} {pv lv : Value} {ys : List Int} {st : List Nd} {M : List Nat} (h : Wy F N w wb pv lv ys st) (hE : Ext M w w') (hM : ∀ x ∈ M, ¬F x ∧ x ≠ wb ∧ x ∉ ob lv) : Wy F N w' wb pv lv ys st :=
  ⟨h.blk.ext hE fun hm => (hM _ hm).2.1 rfl, h.rd.ext hE fun b hb hm => (hM b hm).1 (h.pN b hb), h.own.ext hE fun b hb hm => (hM b hm).2.2 hb,
   fun t ht => (h.ok t ht).ext hE fun x hx hf => (hM x hx).1 (h.fN t ht x hf), h.br, h.fN, h.pN, h.wN, h.lN, h.FN⟩
theorem Wy.ext0 {F : Nat → Prop} {N : Nat} {w w' : World} {wb : Nat} {pv lv : Value} {ys : List Int} {st : List Nd} (h : Wy F N w wb pv lv ys st) (hE : Ext [] w w') : Wy F N w' wb pv lv ys st := h.ext hE fun x hx => by cases hx
theorem Wy.lie {F : Nat → Prop} {N : Nat} {w : World} {wb : Nat} {pv lv : Value} {ys : List Int} {st : List Nd} (h : Wy F N w wb pv lv ys st) : Lie w (wb :: ob lv) := fun x hx => by
  rcases List.mem_cons.1 hx with rfl | hx
  · exact h.blk.lt
  · exact h.own.lie x hx

/-- on the way down -/
structure Dn (F : Nat → Prop) (p : Prop) (N : Nat) (w : World) (lv0 : Value) (wb : Nat) (pv0 : Value) (G : List Int) (t : Nd) (i : Nat) (lv : Value) (st : List Nd) (w' : World) : Prop where
  tok : t.Ok w'
  tN : ∀ x, t.Foot x → F x
  le : i ≤ t.n
  blk : Blk w' wb 105 #[pv0, lv]
  own : OwnV w' 81 1 lv st.length (st.map Nd.ptr)
  ok : ∀ s ∈ st, s.Ok w'
  fN : ∀ s ∈ st, ∀ x, s.Foot x → F x
  wN : N ≤ wb
  lN : ∀ b ∈ ob lv, N ≤ b
  all : t.bs.drop i ++ rst st = G
  bd : t.n + (rst st).length ≤ 100000000
  ext : Ext (wb :: ob lv0) w w'
  fr : Fresh w.heap.size (ob lv0) (ob lv)
  FN : ∀ x, F x → x < N
  nz : p → i < t.n

section
variable {F : Nat → Prop} {p : Prop} {N : Nat} {w : World} {lv0 : Value} {wb : Nat} {pv0 : Value} {G : List Int} {t : Nd} {i : Nat} {lv : Value} {st : List Nd} {w' : World}

theorem Dn.right (h : Dn F p N w lv0 wb pv0 G t i lv st w') {l r : Nd} (hr : r.Ok w') (hrN : ∀ x, r.Foot x → F x) (hn : t.n = l.n + r.n) (hb : t.bs = l.bs ++ r.bs) (hi : l.n ≤ i) : Dn F p N w lv0 wb pv0 G r (i - l.n) lv st w' :=
  ⟨hr, hrN, by have := h.le; omega, h.blk, h.own, h.ok, h.fN, h.wN, h.lN, by
    have h1 := h.all
    rw [hb, List.drop_append, List.drop_of_length_le (by rw [Nd.len]; omega), Nd.len, List.nil_append] at h1
    exact h1, by have := h.bd; omega, h.ext, h.fr, h.FN, fun hp => by have := h.nz hp; omega⟩

theorem Dn.push (h : Dn F p N w lv0 wb pv0 G t i lv st w') {l r : Nd} (hl : l.Ok w') (hlN : ∀ x, l.Foot x → F x) (hr : r.Ok w') (hrN : ∀ x, r.Foot x → F x) (hn : t.n = l.n + r.n) (hb : t.bs = l.bs ++ r.bs) (hi : i < l.n)
    {w2 : World} {lv2 : Value} (hB : Blk w2 wb 105 #[pv0, lv2]) (hO : OwnV w2 81 1 lv2 (st.length + 1) (st.map Nd.ptr ++ [Nd.ptr r])) (hE : Ext (wb :: ob lv) w' w2) (hF : Fresh w'.heap.size (ob lv) (ob lv2)) : Dn F p N w lv0 wb pv0 G l i lv2 (st ++ [r]) w2 := by
  have hM : ∀ x ∈ wb :: ob lv, N ≤ x := fun x hx => by
    rcases List.mem_cons.1 hx with rfl | hx
    · exact h.wN
    · exact h.lN x hx
  have mv : ∀ {s : Nd}, s.Ok w' → (∀ x, s.Foot x → F x) → s.Ok w2 := fun hs hf => hs.ext hE fun x hx hfx => by have := hM x hx; have := h.FN x (hf x hfx); omega
  have hNw : N ≤ w'.heap.size := Nat.le_of_lt (Nat.lt_of_le_of_lt h.wN h.blk.lt)
  have h1 := h.all
  refine ⟨mv hl hlN, hlN, Nat.le_of_lt hi, hB, by simpa using hO, ?_, ?_, h.wN, ?_, ?_, ?_, h.ext.trans hE ?_, h.fr.trans hF h.ext.size, h.FN, fun _ => hi⟩
  · intro s hs
    rcases List.mem_append.1 hs with hs | hs
    · exact mv (h.ok s hs) (h.fN s hs)
    · simp at hs; subst hs; exact mv hr hrN
  · intro s hs
    rcases List.mem_append.1 hs with hs | hs
    · exact h.fN s hs
    · simp at hs; subst hs; exact hrN
  · intro b hb'
    rcases hF b hb' with h2 | h2
    · exact h.lN b h2
    · omega
  · rw [rst_snoc, ← h1, hb, ← List.append_assoc, List.drop_append_of_le_length (by rw [Nd.len]; omega)]
  · rw [rst_snoc, List.length_append, Nd.len]; have := h.bd; omega
  · intro b hb'
    rcases List.mem_cons.1 hb' with rfl | hb'
    · exact .inl (by simp)
    · exact (h.fr b hb').imp (fun h => by simp [h]) id
end
theorem mem_wy {b wb : Nat} {L : List Nat} (hb : b ∈ L ++ [wb]) : b ∈ wb :: L := by
  rcases List.mem_append.1 hb with h | h
  · simp [h]
  · simp at h; simp [h]
theorem mem_wy1 {b wb : Nat} {L : List Nat} (hb : b ∈ [wb]) : b ∈ wb :: L := by simp at hb; simp [hb]
theorem RdV.tail {w : World} {v : Value} {n i : Nat} {xs : List Int} (h : RdV w 1 v n (bv xs)) (hi : i ≤ n) : RdV w 1 (rsub v i n (capOf v)) (xs.drop i).length (bv (xs.drop i)) := by
  have hl : xs.length = n := by have := h.len; simpa using this
  have := h.subb hi (Nat.le_refl n) h.le_cap
  rw [List.take_of_length_le (by rw [List.length_drop]; omega)] at this
  rw [List.length_drop, hl]
  exact this
def DnR (F : Nat → Prop) (p : Prop) (N : Nat) (w : World) (lv0 : Value) (wb : Nat) (G : List Int) (w' : World) : Prop :=
  ∃ pv lv ys st, Wy F N w' wb pv lv ys st ∧ ys ++ rst st = G ∧ ys.length + (rst st).length ≤ 100000000 ∧ Ext (wb :: ob lv0) w w' ∧ Fresh w.heap.size (ob lv0) (ob lv) ∧ (p → ys ≠ [])
theorem Dn.done {F : Nat → Prop} {p : Prop} {N : Nat} {w : World} {lv0 : Value} {wb : Nat} {pv0 : Value} {G : List Int} {t : Nd} {i : Nat} {lv : Value} {st : List Nd} {w' w2 : World} (h : Dn F p N w lv0 wb pv0 G t i lv st w') {v : Value} (hv : RdV w' 1 v t.n (bv t.bs)) (hf : ∀ x, x ∈ ob v → t.Foot x)
    (hB : Blk w2 wb 105 #[rsub v i t.n (capOf v), lv]) (hO : OwnV w2 81 1 lv st.length (st.map Nd.ptr)) (hE : Ext (wb :: ob lv) w' w2) : DnR F p N w lv0 wb G w2 := by
  have hM : ∀ x ∈ wb :: ob lv, N ≤ x := fun x hx => by
    rcases List.mem_cons.1 hx with rfl | hx
    · exact h.wN
    · exact h.lN x hx
  have hd : (t.bs.drop i).length = t.n - i := by rw [List.length_drop, Nd.len]
  refine ⟨_, _, t.bs.drop i, st, ⟨hB, (RdV.tail (hv.ext hE fun b hb hm => ?_) h.le), hO, fun s hs => (h.ok s hs).ext hE fun x hx hfx => ?_, h.tok.br.drop _, h.fN, fun b hb => ?_, h.wN, h.lN, h.FN⟩, h.all, by have := h.bd; omega, h.ext.trans hE fun b hb => ?_, h.fr, fun hp he => by have h1 := h.nz hp; rw [he] at hd; simp at hd; omega⟩
  · have h1 := h.FN b (h.tN b (hf b hb)); have h2 := hM b hm; omega
  · have h1 := h.FN x (h.fN s hs x hfx); have h2 := hM x hx; omega
  · rw [ob_rsub] at hb; exact h.tN b (hf b hb)
  · rcases List.mem_cons.1 hb with rfl | hb
    · exact .inl (by simp)
    · exact (h.fr b hb).imp (fun h => by simp [h]) id
theorem Nd.Ok.twoF {w : World} {t : Nd} (h : t.Ok w) (hh : t.hg ≠ 0) : ∃ l r : Nd, Blk w t.b 89 #[Pv l.b, Pv r.b, .slice none 0 0, I6 t.n, I6 t.rw, I6 t.hg] ∧ l.Ok w ∧ r.Ok w ∧
    t.n = l.n + r.n ∧ t.bs = l.bs ++ r.bs ∧ t.hg = 1 + max l.hg r.hg ∧ (∀ x, l.Foot x → t.Foot x) ∧ (∀ x, r.Foot x → t.Foot x) := by
  cases t with
  | leaf b v xs => exact absurd rfl hh
  | two b l r => exact ⟨l, r, h.1, h.2.1, h.2.2.1, rfl, rfl, rfl, fun x hx => .inr (.inl hx), fun x hx => .inr (.inr hx)⟩
end Go.Proofs.Ytkdbfjomjlhfbaa
