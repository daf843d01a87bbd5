/- The document's nodes as ghosts beside the program's trees, and a forest of both. -/
import Derived.Test.YtpglmeeledmkoaaT19
namespace Go.Proofs.Ytpglmeeledmkoaa
open Go.Vc

/-- a node of the document: k: its store; i: its place; rb: where it lies; kv: its row of children; t: the program's tree -/
inductive Rf where
  | node (k : Int) (i rb : Nat) (kv : Value) (t : Tr) (kids : List Rf)
namespace Rf
def k : Rf → Int | .node k _ _ _ _ _ => k
def i : Rf → Nat | .node _ i _ _ _ _ => i
def rb : Rf → Nat | .node _ _ rb _ _ _ => rb
def kv : Rf → Value | .node _ _ _ kv _ _ => kv
def t : Rf → Tr | .node _ _ _ _ t _ => t
def kids : Rf → List Rf | .node _ _ _ _ _ kids => kids
def ptr (r : Rf) : Value := .pointer (some ⟨r.rb, 0, none⟩)
def cs (r : Rf) : Array Value := #[.int .i64 r.k, .int .i64 (r.i : Int), .int .i64 r.t.kd, .int .i64 r.t.nn, .int .i64 r.t.lk, .int .i64 r.t.ls, .int .i64 r.t.ll, .int .i64 r.t.lr, r.kv, .int .i64 r.t.tt]
theorem ind {p : Rf → Prop} (h : ∀ t, (∀ k ∈ t.kids, p k) → p t) : ∀ t, p t := by
  intro t
  induction t using Rf.rec (motive_2 := fun l => ∀ k ∈ l, p k) with
  | node k i rb kv t kids ih => exact h _ ih
  | nil => rename_i k hk; cases hk
  | cons t ts h1 h2 =>
    rename_i k hk
    rcases List.mem_cons.1 hk with rfl | hk
    · exact h1
    · exact h2 k hk
end Rf

def sOf (s0 s1 : Nat) (k : Int) : Nat := if k = 0 then s0 else s1

structure Rone (w : World) (s0 s1 : Nat) (L : List Rf) (r : Rf) : Prop where
  kk : r.k = 0 ∨ r.k = 1
  ok : r.t.Ok w (sOf s0 s1 r.k)
  blk : Blk w r.rb 40 r.cs
  row : OwnV w 29 1 r.kv r.kids.length (r.kids.map Rf.ptr)
  kt : r.t.kids = r.kids.map Rf.t
  kin : ∀ q ∈ r.kids, L[q.i]? = some q
  ki : r.i < L.length

structure FOk (w : World) (s0 s1 : Nat) (L : List Rf) : Prop where
  ix : ∀ (i : Nat) (r : Rf), L[i]? = some r → r.i = i
  one : ∀ r ∈ L, Rone w s0 s1 L r

def FFoot (L : List Rf) (x : Nat) : Prop := ∃ r ∈ L, r.t.Foot x ∨ x = r.rb ∨ x ∈ ob r.kv

section
variable {w w' : World} {s0 s1 : Nat} {L : List Rf} {M : List Nat} {r q : Rf}

theorem FOk.ext (h : FOk w s0 s1 L) (hE : Ext M w w') (hM : ∀ x ∈ M, ¬FFoot L x) : FOk w' s0 s1 L :=
  ⟨h.ix, fun r hr => by
    have h1 := h.one r hr
    exact ⟨h1.kk, h1.ok.ext hE r.t (fun x hx hf => hM x hx ⟨r, hr, .inl hf⟩), h1.blk.ext hE (fun hm => hM _ hm ⟨r, hr, .inr (.inl rfl)⟩),
      h1.row.ext hE (fun x hx hm => hM x hm ⟨r, hr, .inr (.inr hx)⟩), h1.kt, h1.kin, h1.ki⟩⟩
theorem FOk.ext0 (h : FOk w s0 s1 L) (hE : Ext [] w w') : FOk w' s0 s1 L := h.ext hE (by simp)
theorem OwnV.obBlk {w : World} {e : TypeId} {size n x : Nat} {v : Value} {xs : List Value} (h : OwnV w e size v n xs) (hx : x ∈ ob v) : ∃ cs, Blk w x e cs := by
  rcases h with ⟨rfl, _⟩ | ⟨g, cap, rfl, h⟩
  · have hx : x ∈ ([] : List Nat) := hx; cases hx
  · have hx : x = g := by simpa [ob] using hx
    subst hx
    obtain ⟨⟨cur, hc, _⟩, _⟩ := h
    exact ⟨_, hc⟩
theorem FOk.foot (h : FOk w s0 s1 L) {x : Nat} (hx : FFoot L x) : ∃ cs, Blk w x 106 cs ∨ Blk w x 47 cs ∨ Blk w x 40 cs ∨ Blk w x 29 cs := by
  obtain ⟨r, hr, hf | rfl | hf⟩ := hx
  · obtain ⟨cs, h1 | h1⟩ := Tr.Ok.foot r.t (h.one r hr).ok hf
    · exact ⟨cs, .inl h1⟩
    · exact ⟨cs, .inr (.inl h1)⟩
  · exact ⟨_, .inr (.inr (.inl (h.one r hr).blk))⟩
  · obtain ⟨cs, h1⟩ := OwnV.obBlk (h.one r hr).row hf
    exact ⟨cs, .inr (.inr (.inr h1))⟩
theorem FOk.foot_lt (h : FOk w s0 s1 L) {x : Nat} (hx : FFoot L x) : x < w.heap.size := by
  obtain ⟨cs, hb | hb | hb | hb⟩ := h.foot hx <;> exact hb.lt
theorem FOk.not_foot (h : FOk w s0 s1 L) {x : Nat} {T : TypeId} {cs : Array Value} (hb : Blk w x T cs) (hT : T ≠ 106 ∧ T ≠ 47 ∧ T ≠ 40 ∧ T ≠ 29) : ¬FFoot L x := fun hx => by
  obtain ⟨cs', hb' | hb' | hb' | hb'⟩ := h.foot hx
  · exact hT.1 (hb.same hb').1
  · exact hT.2.1 (hb.same hb').1
  · exact hT.2.2.1 (hb.same hb').1
  · exact hT.2.2.2 (hb.same hb').1
theorem FOk.mem (h : FOk w s0 s1 L) (hr : r ∈ L) (hq : q ∈ r.kids) : q ∈ L := List.mem_of_getElem? ((h.one r hr).kin q hq)
theorem FOk.at (h : FOk w s0 s1 L) (hr : r ∈ L) : L[r.i]? = some r := by
  obtain ⟨i, hi, hv⟩ := List.getElem_of_mem hr
  have h1 : L[i]? = some r := by rw [List.getElem?_eq_getElem hi, hv]
  rw [h.ix i r h1]; exact h1
theorem FOk.klen (h : FOk w s0 s1 L) (hr : r ∈ L) : r.t.kids.length = r.kids.length := by rw [(h.one r hr).kt, List.length_map]
theorem FOk.tt (h : FOk w s0 s1 L) (hr : r ∈ L) : 1 ≤ r.t.tt ∧ r.t.tt ≤ 4194304 ∧ 0 ≤ r.t.wd ∧ r.t.wd ≤ 524288 * r.t.tt ∧ 0 ≤ r.t.lf ∧ r.t.lf ≤ r.t.tt := by
  have h1 := Tr.Ok.tt_pos r.t (h.one r hr).ok
  have h2 := (h.one r hr).ok.nums.max
  omega
theorem FOk.kids_le (h : FOk w s0 s1 L) (hr : r ∈ L) : (r.kids.length : Int) ≤ r.t.tt := by
  have h1 := Oks.len (h.one r hr).ok.oks
  rw [h.klen hr] at h1
  have hn := (h.one r hr).ok.nums
  by_cases hk : r.t.kd = 1
  · have h2 := (hn.leaf hk).1
    have h3 := h.klen hr
    have h4 := h.tt hr
    rw [h2] at h3
    simp at h3
    omega
  · have := (hn.inner hk).2.2.2.2.2.2.2.2.2.1
    omega

/-- what the children sum up to, some of them -/
theorem FOk.sums (h : FOk w s0 s1 L) (hr : r ∈ L) (hk : r.t.kd ≠ 1) : sumW (r.kids.map Rf.t) = r.t.wd ∧ sumL (r.kids.map Rf.t) = r.t.lf ∧ 1 + sumT (r.kids.map Rf.t) = r.t.tt := by
  have hn := ((h.one r hr).ok.nums.inner hk).2.2.2.2.2.2.2
  rw [(h.one r hr).kt] at hn
  omega
end

theorem rf_take_succ {l : List Rf} {j : Nat} {q : Rf} (h : l[j]? = some q) : l.take (j + 1) = l.take j ++ [q] := by
  have hj : j < l.length := (List.getElem?_eq_some_iff.1 h).1
  rw [List.take_succ_eq_append_getElem hj, (List.getElem?_eq_some_iff.1 h).2]
theorem sumW_snoc (l : List Tr) (t : Tr) : sumW (l ++ [t]) = sumW l + t.wd := by rw [sumW_append]; simp [sumW]
theorem sumT_snoc (l : List Tr) (t : Tr) : sumT (l ++ [t]) = sumT l + t.tt := by rw [sumT_append]; simp [sumT]
/-- the sums of the first of the children are no more than all -/
theorem sums_take {w : World} {s0 s1 : Nat} {L : List Rf} {r : Rf} (h : FOk w s0 s1 L) (hr : r ∈ L) (j : Nat) :
    0 ≤ sumW ((r.kids.take j).map Rf.t) ∧ sumW ((r.kids.take j).map Rf.t) ≤ r.t.wd ∧ 0 ≤ sumL ((r.kids.take j).map Rf.t) ∧ sumL ((r.kids.take j).map Rf.t) ≤ r.t.lf ∧ 0 ≤ sumT ((r.kids.take j).map Rf.t) ∧ sumT ((r.kids.take j).map Rf.t) < r.t.tt := by
  have pos : ∀ l : List Rf, (∀ q ∈ l, q ∈ L) → 0 ≤ sumW (l.map Rf.t) ∧ 0 ≤ sumL (l.map Rf.t) ∧ 0 ≤ sumT (l.map Rf.t) := by
    intro l
    induction l with
    | nil => intro _; simp [sumW, sumL, sumT]
    | cons q l ih =>
      intro hl
      have h1 := ih (fun q hq => hl q (by simp [hq]))
      have h2 := h.tt (hl q (by simp))
      simp only [List.map_cons, sumW, sumL, sumT]
      omega
  have a1 := pos (r.kids.take j) (fun q hq => h.mem hr (List.mem_of_mem_take hq))
  have a2 := pos (r.kids.drop j) (fun q hq => h.mem hr (List.mem_of_mem_drop hq))
  have hs : ∀ l : List Rf, l.map Rf.t = (l.take j).map Rf.t ++ (l.drop j).map Rf.t := fun l => by rw [← List.map_append, List.take_append_drop]
  have e1 := sumW_append ((r.kids.take j).map Rf.t) ((r.kids.drop j).map Rf.t)
  have e2 := sumL_append ((r.kids.take j).map Rf.t) ((r.kids.drop j).map Rf.t)
  have e3 := sumT_append ((r.kids.take j).map Rf.t) ((r.kids.drop j).map Rf.t)
  rw [← hs] at e1 e2 e3
  have hb := h.tt hr
  by_cases hk : r.t.kd = 1
  · have hn := (h.one r hr).ok.nums.leaf hk
    have hl := h.klen hr
    rw [hn.1] at hl
    have hl : r.kids = [] := List.eq_nil_of_length_eq_zero (by simpa using hl.symm)
    rw [hl]
    simp [sumW, sumL, sumT]
    omega
  · have := h.sums hr hk
    omega

/-- a node and all below, each with its place and its path -/
structure Sp where
  r : Rf
  at_ : Int
  path : List Int
mutual
def rwalk : Rf → Int → List Int → List Sp
  | .node k i rb kv t kids, p, path => ⟨.node k i rb kv t kids, p, path⟩ :: rwalks kids p path 0
def rwalks : List Rf → Int → List Int → Nat → List Sp
  | [], _, _, _ => []
  | r :: rs, p, path, j => rwalk r p (path ++ [(j : Int)]) ++ rwalks rs (p + r.t.wd) path (j + 1)
end
theorem rwalk_eq (r : Rf) (p : Int) (path : List Int) : rwalk r p path = ⟨r, p, path⟩ :: rwalks r.kids p path 0 := by cases r; simp [rwalk, Rf.kids]
theorem rwalks_append : ∀ (l l' : List Rf) (p : Int) (path : List Int) (j : Nat), rwalks (l ++ l') p path j = rwalks l p path j ++ rwalks l' (p + sumW (l.map Rf.t)) path (j + l.length)
  | [], l', p, path, j => by simp [rwalks, sumW]
  | r :: l, l', p, path, j => by
    simp only [List.cons_append, rwalks, rwalks_append l l', List.append_assoc, List.map_cons, sumW, List.length_cons, Int.add_assoc]
    rw [show j + 1 + l.length = j + (l.length + 1) by omega]

/-- the places of the two walks are the same -/
theorem rwalk_walk {w : World} {s0 s1 : Nat} {L : List Rf} (h : FOk w s0 s1 L) : ∀ r : Rf, r ∈ L → ∀ p path, (rwalk r p path).map (fun s => (s.at_, s.r.t)) = walk r.t p ∧ ∀ s ∈ rwalk r p path, s.r ∈ L := by
  refine Rf.ind fun r ih hr p path => ?_
  have key : ∀ (l : List Rf) (p : Int) (path : List Int) (j : Nat), (∀ q ∈ l, q ∈ r.kids) → (rwalks l p path j).map (fun s => (s.at_, s.r.t)) = walks (l.map Rf.t) p ∧ ∀ s ∈ rwalks l p path j, s.r ∈ L := by
    intro l
    induction l with
    | nil => intro p path j _; simp [rwalks, walks]
    | cons q l ihl =>
      intro p path j hl
      have h1 := ihl (p + q.t.wd) path (j + 1) (fun k hk => hl k (by simp [hk]))
      have h2 := ih q (hl q (by simp)) (h.mem hr (hl q (by simp))) p (path ++ [(j : Int)])
      simp only [rwalks, List.map_append, List.map_cons, walks, h1.1, h2.1, true_and]
      intro s hs
      rcases List.mem_append.1 hs with hs | hs
      · exact h2.2 s hs
      · exact h1.2 s hs
  have k1 := key r.kids p path 0 (fun q hq => hq)
  rw [rwalk_eq, walk_eq, (h.one r hr).kt]
  refine ⟨by simp [k1.1], ?_⟩
  intro s hs
  rcases List.mem_cons.1 hs with rfl | hs
  · exact hr
  · exact k1.2 s hs
theorem rwalk_len {w : World} {s0 s1 : Nat} {L : List Rf} (h : FOk w s0 s1 L) {r : Rf} (hr : r ∈ L) (p : Int) (path : List Int) : ((rwalk r p path).length : Int) = r.t.tt := by
  rw [← walk_len r.t (h.one r hr).ok p, ← (rwalk_walk h r hr p path).1, List.length_map]
end Go.Proofs.Ytpglmeeledmkoaa
