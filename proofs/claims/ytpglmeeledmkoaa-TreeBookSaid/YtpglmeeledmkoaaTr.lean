/- The trees as ghosts: what lies in the heap, and what is told of it. -/
import Derived.Test.YtpglmeeledmkoaaT2
import Derived.Test.YtpglmeeledmkoaaVa
namespace Go.Proofs.Ytpglmeeledmkoaa
open Go.Vc

inductive Tr where
  | node (b : Nat) (num kd nn lk ls ll lr : Int) (ks : Value) (wd lf tt : Int) (fl : Bool) (kids : List Tr)

namespace Tr
def b : Tr → Nat | .node b _ _ _ _ _ _ _ _ _ _ _ _ _ => b
def num : Tr → Int | .node _ num _ _ _ _ _ _ _ _ _ _ _ _ => num
def kd : Tr → Int | .node _ _ kd _ _ _ _ _ _ _ _ _ _ _ => kd
def nn : Tr → Int | .node _ _ _ nn _ _ _ _ _ _ _ _ _ _ => nn
def lk : Tr → Int | .node _ _ _ _ lk _ _ _ _ _ _ _ _ _ => lk
def ls : Tr → Int | .node _ _ _ _ _ ls _ _ _ _ _ _ _ _ => ls
def ll : Tr → Int | .node _ _ _ _ _ _ ll _ _ _ _ _ _ _ => ll
def lr : Tr → Int | .node _ _ _ _ _ _ _ lr _ _ _ _ _ _ => lr
def ks : Tr → Value | .node _ _ _ _ _ _ _ _ ks _ _ _ _ _ => ks
def wd : Tr → Int | .node _ _ _ _ _ _ _ _ _ wd _ _ _ _ => wd
def lf : Tr → Int | .node _ _ _ _ _ _ _ _ _ _ lf _ _ _ => lf
def tt : Tr → Int | .node _ _ _ _ _ _ _ _ _ _ _ tt _ _ => tt
def fl : Tr → Bool | .node _ _ _ _ _ _ _ _ _ _ _ _ fl _ => fl
def kids : Tr → List Tr | .node _ _ _ _ _ _ _ _ _ _ _ _ _ kids => kids
def ptr (t : Tr) : Value := .pointer (some ⟨t.b, 0, none⟩)
/-- the node's cells -/
def cs (sb : Nat) (t : Tr) : Array Value := #[.pointer (some ⟨sb, 0, none⟩), .int .i64 t.num, .int .i64 t.kd, .int .i64 t.nn, .int .i64 t.lk, .int .i64 t.ls, .int .i64 t.ll, .int .i64 t.lr, t.ks, .int .i64 t.wd, .int .i64 t.lf, .int .i64 t.tt, .bool t.fl]
end Tr

def sumW : List Tr → Int
  | [] => 0
  | t :: ts => t.wd + sumW ts
def sumL : List Tr → Int
  | [] => 0
  | t :: ts => t.lf + sumL ts
def sumT : List Tr → Int
  | [] => 0
  | t :: ts => t.tt + sumT ts
def anyF : List Tr → Bool
  | [] => false
  | t :: ts => t.fl || anyF ts

/-- what a node's numbers are -/
structure Nums (t : Tr) : Prop where
  leaf : t.kd = 1 → t.kids = [] ∧ t.wd = bt t.ls + bt t.ll ∧ t.lf = 1 ∧ t.tt = 1 ∧ t.fl = (t.lk == -1) ∧ t.nn = t.lk
  inner : t.kd ≠ 1 → 2 ≤ t.kd ∧ t.kd ≤ 5 ∧ 0 ≤ t.nn ∧ t.lk = 0 ∧ t.ls = 0 ∧ t.ll = 0 ∧ t.lr = 0 ∧ t.wd = sumW t.kids ∧ t.lf = sumL t.kids ∧ t.tt = 1 + sumT t.kids ∧ t.fl = (t.kd == 3 || t.kd == 5 || anyF t.kids)
  max : t.tt ≤ 4194304
  nz : t.kd ≠ 1 → t.kd ≠ 2 → t.nn = 0

/-- what is told of the node alone -/
def Tr.one (w : World) (sb : Nat) (t : Tr) : Prop := Blk w t.b 106 (t.cs sb) ∧ OwnV w 47 1 t.ks t.kids.length (t.kids.map Tr.ptr) ∧ Nums t

mutual
def Tr.Ok (w : World) (sb : Nat) : Tr → Prop
  | .node b num kd nn lk ls ll lr ks wd lf tt fl kids => Tr.one w sb (.node b num kd nn lk ls ll lr ks wd lf tt fl kids) ∧ Oks w sb kids
def Oks (w : World) (sb : Nat) : List Tr → Prop
  | [] => True
  | t :: ts => t.Ok w sb ∧ Oks w sb ts
end

mutual
def Tr.Foot : Tr → Nat → Prop
  | .node b _ _ _ _ _ _ _ ks _ _ _ _ kids, x => x = b ∨ x ∈ ob ks ∨ Foots kids x
def Foots : List Tr → Nat → Prop
  | [], _ => False
  | t :: ts, x => t.Foot x ∨ Foots ts x
end

mutual
def walk : Tr → Int → List (Int × Tr)
  | .node b num kd nn lk ls ll lr ks wd lf tt fl kids, p => (p, .node b num kd nn lk ls ll lr ks wd lf tt fl kids) :: walks kids p
def walks : List Tr → Int → List (Int × Tr)
  | [], _ => []
  | t :: ts, p => walk t p ++ walks ts (p + t.wd)
end

theorem Tr.ok_iff {w : World} {sb : Nat} (t : Tr) : t.Ok w sb ↔ t.one w sb ∧ Oks w sb t.kids := by cases t; simp [Tr.Ok, Tr.kids]
theorem Tr.foot_iff (t : Tr) (x : Nat) : t.Foot x ↔ x = t.b ∨ x ∈ ob t.ks ∨ Foots t.kids x := by cases t; simp [Tr.Foot, Tr.b, Tr.ks, Tr.kids]
theorem walk_eq (t : Tr) (p : Int) : walk t p = (p, t) :: walks t.kids p := by cases t; simp [walk, Tr.kids]

theorem oks_iff {w : World} {sb : Nat} : ∀ {l : List Tr}, Oks w sb l ↔ ∀ t ∈ l, t.Ok w sb
  | [] => by simp [Oks]
  | t :: ts => by simp [Oks, oks_iff]
theorem foots_iff {x : Nat} : ∀ {l : List Tr}, Foots l x ↔ ∃ t ∈ l, t.Foot x
  | [] => by simp [Foots]
  | t :: ts => by simp [Foots, foots_iff]

/-- induction on a tree, by its children -/
theorem Tr.ind {p : Tr → Prop} (h : ∀ t, (∀ k ∈ t.kids, p k) → p t) : ∀ t, p t := by
  intro t
  induction t using Tr.rec (motive_2 := fun l => ∀ k ∈ l, p k) with
  | node b num kd nn lk ls ll lr ks wd lf tt fl kids ih => exact h _ ih
  | nil => rename_i k hk; cases hk
  | cons t ts h1 h2 =>
    rename_i k hk
    rcases List.mem_cons.1 hk with rfl | hk
    · exact h1
    · exact h2 k hk

theorem Tr.Ok.one {w : World} {sb : Nat} {t : Tr} (h : t.Ok w sb) : t.one w sb := ((t.ok_iff).1 h).1
theorem Tr.Ok.blk {w : World} {sb : Nat} {t : Tr} (h : t.Ok w sb) : Blk w t.b 106 (t.cs sb) := h.one.1
theorem Tr.Ok.arr {w : World} {sb : Nat} {t : Tr} (h : t.Ok w sb) : OwnV w 47 1 t.ks t.kids.length (t.kids.map Tr.ptr) := h.one.2.1
theorem Tr.Ok.nums {w : World} {sb : Nat} {t : Tr} (h : t.Ok w sb) : Nums t := h.one.2.2
theorem Tr.Ok.oks {w : World} {sb : Nat} {t : Tr} (h : t.Ok w sb) : Oks w sb t.kids := ((t.ok_iff).1 h).2
theorem Oks.at {w : World} {sb : Nat} {l : List Tr} (h : Oks w sb l) {t : Tr} (ht : t ∈ l) : t.Ok w sb := oks_iff.1 h t ht

theorem Tr.Ok.ext {w w' : World} {M : List Nat} {sb : Nat} (hE : Ext M w w') : ∀ t : Tr, t.Ok w sb → (∀ x ∈ M, ¬t.Foot x) → t.Ok w' sb := by
  refine Tr.ind fun t ih h hM => ?_
  refine (t.ok_iff).2 ⟨⟨h.blk.ext hE (fun hm => hM _ hm ((t.foot_iff _).2 (.inl rfl))), h.arr.ext hE (fun x hx hm => hM _ hm ((t.foot_iff _).2 (.inr (.inl hx)))), h.nums⟩, oks_iff.2 fun k hk => ?_⟩
  exact ih k hk (h.oks.at hk) fun x hx hf => hM x hx ((t.foot_iff _).2 (.inr (.inr (foots_iff.2 ⟨k, hk, hf⟩))))

theorem Oks.ext {w w' : World} {M : List Nat} {sb : Nat} (hE : Ext M w w') {l : List Tr} (h : Oks w sb l) (hM : ∀ x ∈ M, ¬Foots l x) : Oks w' sb l :=
  oks_iff.2 fun t ht => (h.at ht).ext hE t fun x hx hf => hM x hx (foots_iff.2 ⟨t, ht, hf⟩)

/-- what a tree lies on: nodes and rows of nodes -/
theorem Tr.Ok.foot {w : World} {sb x : Nat} : ∀ t : Tr, t.Ok w sb → t.Foot x → ∃ cs, Blk w x 106 cs ∨ Blk w x 47 cs := by
  refine Tr.ind fun t ih h hx => ?_
  rcases (t.foot_iff _).1 hx with rfl | hx | hx
  · exact ⟨_, .inl h.blk⟩
  · rcases h.arr with ⟨h1, h2, _⟩ | ⟨g, cap, h1, h2⟩
    · rw [h1] at hx; have hx : x ∈ ([] : List Nat) := hx; cases hx
    · rw [h1] at hx; simp [ob] at hx; subst hx; exact h2.row.elim fun cur hc => ⟨cur, .inr hc.1⟩
  · obtain ⟨k, hk, hf⟩ := foots_iff.1 hx
    exact ih k hk (h.oks.at hk) hf
theorem Tr.Ok.foot_lt {w : World} {sb x : Nat} {t : Tr} (h : t.Ok w sb) (hx : t.Foot x) : x < w.heap.size := by
  obtain ⟨cs, hb | hb⟩ := Tr.Ok.foot t h hx <;> exact hb.lt
theorem Tr.Ok.not_foot {w : World} {sb x : Nat} {t : Tr} {T : TypeId} {cs : Array Value} (h : t.Ok w sb) (hb : Blk w x T cs) (h1 : T ≠ 106) (h2 : T ≠ 47) : ¬t.Foot x := fun hx => by
  obtain ⟨cs', hb' | hb'⟩ := Tr.Ok.foot t h hx
  · exact h1 (hb.same hb').1
  · exact h2 (hb.same hb').1

theorem Tr.Ok.tt_pos {w : World} {sb : Nat} : ∀ t : Tr, t.Ok w sb → 1 ≤ t.tt ∧ 0 ≤ t.wd ∧ t.wd ≤ 524288 * t.tt ∧ 0 ≤ t.lf ∧ t.lf ≤ t.tt := by
  refine Tr.ind fun t ih h => ?_
  have hn := h.nums
  by_cases hk : t.kd = 1
  · obtain ⟨_, h2, h3, h4, _⟩ := hn.leaf hk
    have a1 := bt_bd t.ls
    have a2 := bt_bd t.ll
    omega
  · obtain ⟨_, _, _, _, _, _, _, h1, h2, h3, _⟩ := hn.inner hk
    have key : ∀ l : List Tr, (∀ k ∈ l, k ∈ t.kids) → 0 ≤ sumT l ∧ 0 ≤ sumW l ∧ sumW l ≤ 524288 * sumT l ∧ 0 ≤ sumL l ∧ sumL l ≤ sumT l := by
      intro l
      induction l with
      | nil => intro _; simp [sumT, sumW, sumL]
      | cons k l ihl =>
        intro hl
        have h1 := ihl (fun k hk => hl k (by simp [hk]))
        have h2 := ih k (hl k (by simp)) (h.oks.at (hl k (by simp)))
        simp only [sumT, sumW, sumL]
        omega
    have := key t.kids (fun _ h => h)
    omega

theorem sumT_append : ∀ (l l' : List Tr), sumT (l ++ l') = sumT l + sumT l'
  | [], l' => by simp [sumT]
  | t :: l, l' => by simp [sumT, sumT_append l l']; omega
theorem sumW_append : ∀ (l l' : List Tr), sumW (l ++ l') = sumW l + sumW l'
  | [], l' => by simp [sumW]
  | t :: l, l' => by simp [sumW, sumW_append l l']; omega
theorem Oks.len {w : World} {sb : Nat} : ∀ {l : List Tr}, Oks w sb l → (l.length : Int) ≤ sumT l
  | [], _ => by simp [sumT]
  | t :: l, h => by
    have h1 := (Tr.Ok.tt_pos t h.1).1
    have h2 := Oks.len h.2
    simp only [List.length_cons, sumT]
    omega

theorem walks_append : ∀ (l l' : List Tr) (p : Int), walks (l ++ l') p = walks l p ++ walks l' (p + sumW l)
  | [], l', p => by simp [walks, sumW]
  | t :: l, l', p => by simp [walks, sumW, walks_append l l', List.append_assoc, Int.add_assoc]

/-- the order in which the stack is gone through -/
theorem walks_step {w : World} {sb : Nat} {t : Tr} (h : t.Ok w sb) (ts : List Tr) (p : Int) : walks (t :: ts) p = (p, t) :: walks (t.kids ++ ts) (if t.kd = 1 then p + t.wd else p) := by
  simp only [walks, walk_eq, List.cons_append]
  split
  · rename_i hk
    have := (h.nums.leaf hk).1
    simp [this, walks]
  · rename_i hk
    have := (h.nums.inner hk).2.2.2.2.2.2.2.1
    rw [walks_append, this]

theorem walk_len {w : World} {sb : Nat} : ∀ (t : Tr), t.Ok w sb → ∀ p, ((walk t p).length : Int) = t.tt := by
  refine Tr.ind fun t ih h p => ?_
  have key : ∀ (l : List Tr) (p : Int), (∀ k ∈ l, k ∈ t.kids) → ((walks l p).length : Int) = sumT l := by
    intro l
    induction l with
    | nil => intro p _; simp [walks, sumT]
    | cons k l ihl =>
      intro p hl
      have h1 := ihl (p + k.wd) (fun k hk => hl k (by simp [hk]))
      have h2 := ih k (hl k (by simp)) (h.oks.at (hl k (by simp))) p
      simp only [walks, sumT, List.length_append]
      omega
  have := key t.kids p (fun _ h => h)
  rw [walk_eq]
  simp only [List.length_cons]
  by_cases hk : t.kd = 1
  · have h1 := (h.nums.leaf hk).1
    have h4 := (h.nums.leaf hk).2.2.2.1
    rw [h1] at this ⊢
    simp [walks, sumT] at this ⊢
    omega
  · have h3 := (h.nums.inner hk).2.2.2.2.2.2.2.2.2.1
    omega

/-- all that is gone through lies in the tree -/
theorem walk_ok {w : World} {sb : Nat} : ∀ (t : Tr), t.Ok w sb → ∀ p, ∀ q ∈ walk t p, q.2.Ok w sb ∧ (∀ x, q.2.Foot x → t.Foot x) := by
  refine Tr.ind fun t ih h p q hq => ?_
  rw [walk_eq] at hq
  rcases List.mem_cons.1 hq with rfl | hq
  · exact ⟨h, fun _ h => h⟩
  · have key : ∀ (l : List Tr) (p : Int), (∀ k ∈ l, k ∈ t.kids) → q ∈ walks l p → ∃ k ∈ t.kids, ∃ p', q ∈ walk k p' := by
      intro l
      induction l with
      | nil => intro p _ hq; simp [walks] at hq
      | cons k l ihl =>
        intro p hl hq
        simp only [walks, List.mem_append] at hq
        rcases hq with hq | hq
        · exact ⟨k, hl k (by simp), _, hq⟩
        · exact ihl _ (fun k hk => hl k (by simp [hk])) hq
    obtain ⟨k, hk, p', hq'⟩ := key t.kids p (fun _ h => h) hq
    obtain ⟨h1, h2⟩ := ih k hk (h.oks.at hk) p' q hq'
    exact ⟨h1, fun x hx => (t.foot_iff x).2 (.inr (.inr (foots_iff.2 ⟨k, hk, h2 x hx⟩)))⟩

end Go.Proofs.Ytpglmeeledmkoaa
