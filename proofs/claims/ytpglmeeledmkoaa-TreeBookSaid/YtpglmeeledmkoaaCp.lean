/- Trees beside their copies: what rows tell of a tree. -/
import Derived.Test.YtpglmeeledmkoaaT7
namespace Go.Proofs.Ytpglmeeledmkoaa
open Go.Vc

mutual
def pre : Tr → List Tr
  | .node b num kd nn lk ls ll lr ks wd lf tt fl kids => .node b num kd nn lk ls ll lr ks wd lf tt fl kids :: pres kids
def pres : List Tr → List Tr
  | [] => []
  | t :: ts => pre t ++ pres ts
end
theorem pre_eq (t : Tr) : pre t = t :: pres t.kids := by cases t; simp [pre, Tr.kids]
theorem walk_pre : ∀ (t : Tr) (p : Int), (walk t p).map (·.2) = pre t := by
  refine Tr.ind fun t ih p => ?_
  rw [walk_eq, pre_eq]
  have key : ∀ (l : List Tr) (p : Int), (∀ k ∈ l, k ∈ t.kids) → (walks l p).map (·.2) = pres l := by
    intro l
    induction l with
    | nil => intro p _; simp [walks, pres]
    | cons k l ihl => intro p hl; simp [walks, pres, ih k (hl k (by simp)), ihl _ (fun k hk => hl k (by simp [hk]))]
  simp [key t.kids p (fun _ h => h)]
def rowT (t : Tr) : List Value := [.int .i64 t.kd, .int .i64 t.nn, .int .i64 t.ls, .int .i64 t.ll, .int .i64 (t.kids.length : Int), .int .i64 t.num]
def rowP (t : Tr) : List Value := [.int .i64 t.kd, .int .i64 t.nn, .int .i64 t.ls, .int .i64 t.ll, .int .i64 (t.kids.length : Int), .int .i64 0]
def rowsT : List Tr → List Value
  | [] => []
  | t :: l => rowT t ++ rowsT l
def rowsP : List Tr → List Value
  | [] => []
  | t :: l => rowP t ++ rowsP l
theorem rowsOf_T : ∀ (l : List (Int × Tr)), rowsOf l = rowsT (l.map (·.2))
  | [] => rfl
  | q :: l => by simp only [rowsOf, rowsT, List.map_cons, rowsOf_T l]; rfl
theorem rowsP_append : ∀ (a b : List Tr), rowsP (a ++ b) = rowsP a ++ rowsP b
  | [], b => rfl
  | t :: a, b => by simp [rowsP, rowsP_append a b]
theorem rowsT_at : ∀ (l : List Tr) (j i : Nat) (q : Tr), l[j]? = some q → i < 6 → (rowsT l)[0 + j * 6 + i]? = (rowT q)[i]?
  | [], j, i, q, hj, _ => by simp at hj
  | s :: l, 0, i, q, hj, hi => by
    simp only [List.getElem?_cons_zero, Option.some.injEq] at hj
    subst hj
    simp only [rowsT, Nat.zero_mul, Nat.add_zero, Nat.zero_add]
    rw [List.getElem?_append_left (by simpa [rowT] using hi)]
  | s :: l, j + 1, i, q, hj, hi => by
    simp only [List.getElem?_cons_succ] at hj
    have h := rowsT_at l j i q hj hi
    simp only [rowsT]
    rw [List.getElem?_append_right (by simp [rowT]; omega), ← h]
    congr 1
    simp [rowT]; omega
mutual
/-- a tree that tells what another tells, but for its places and numbers -/
def Cpy : Tr → Tr → Prop
  | .node _ _ kd nn _ ls ll _ _ wd lf tt fl kids, t' => (t'.kd = kd ∧ t'.nn = nn ∧ t'.ls = ls ∧ t'.ll = ll ∧ t'.wd = wd ∧ t'.lf = lf ∧ t'.tt = tt ∧ t'.fl = fl) ∧ Cpys kids t'.kids
def Cpys : List Tr → List Tr → Prop
  | [], l => l = []
  | t :: ts, l => ∃ t' ts', l = t' :: ts' ∧ Cpy t t' ∧ Cpys ts ts'
end
theorem cpy_iff (t t' : Tr) : Cpy t t' ↔ (t'.kd = t.kd ∧ t'.nn = t.nn ∧ t'.ls = t.ls ∧ t'.ll = t.ll ∧ t'.wd = t.wd ∧ t'.lf = t.lf ∧ t'.tt = t.tt ∧ t'.fl = t.fl) ∧ Cpys t.kids t'.kids := by
  cases t; simp only [Cpy, Tr.kd, Tr.nn, Tr.ls, Tr.ll, Tr.wd, Tr.lf, Tr.tt, Tr.fl, Tr.kids]
theorem Cpys.len : ∀ {a b : List Tr}, Cpys a b → b.length = a.length
  | [], b, h => by simp only [Cpys] at h; rw [h]
  | t :: a, b, h => by obtain ⟨t', ts', rfl, h1, h2⟩ := h; simp [Cpys.len h2]
theorem Cpys.split : ∀ {a c b : List Tr}, Cpys (a ++ c) b → ∃ b1 b2, b = b1 ++ b2 ∧ Cpys a b1 ∧ Cpys c b2
  | [], c, b, h => ⟨[], b, rfl, rfl, h⟩
  | t :: a, c, b, h => by
    obtain ⟨t', ts', rfl, h1, h2⟩ := h
    obtain ⟨b1, b2, rfl, h3, h4⟩ := Cpys.split h2
    exact ⟨t' :: b1, b2, rfl, ⟨t', b1, rfl, h1, h3⟩, h4⟩
theorem Cpys.sums : ∀ {a b : List Tr}, Cpys a b → sumW b = sumW a ∧ sumL b = sumL a ∧ sumT b = sumT a ∧ anyF b = anyF a
  | [], b, h => by simp only [Cpys] at h; subst h; exact ⟨rfl, rfl, rfl, rfl⟩
  | t :: a, b, h => by
    obtain ⟨t', ts', rfl, h1, h2⟩ := h
    obtain ⟨s1, s2, s3, s4⟩ := Cpys.sums h2
    obtain ⟨⟨_, _, _, _, e1, e2, e3, e4⟩, _⟩ := (cpy_iff _ _).1 h1
    simp only [sumW, sumL, sumT, anyF, s1, s2, s3, s4, e1, e2, e3, e4]
    simp
theorem Cpys.rows {a b : List Tr} (h : Cpys a b) : rowsP (pres a) = rowsP (pres b) := by
  have key : ∀ t t' : Tr, Cpy t t' → rowsP (pre t) = rowsP (pre t') := by
    refine Tr.ind fun t ih t' h => ?_
    obtain ⟨⟨e1, e2, e3, e4, _⟩, hk⟩ := (cpy_iff _ _).1 h
    have hl := hk.len
    rw [pre_eq, pre_eq]
    simp only [rowsP, rowP, e1, e2, e3, e4, hl]
    have : ∀ (l l' : List Tr), (∀ k ∈ l, k ∈ t.kids) → Cpys l l' → rowsP (pres l) = rowsP (pres l') := by
      intro l
      induction l with
      | nil => intro l' _ h; simp only [Cpys] at h; rw [h]
      | cons k l ihl =>
        rintro _ hl ⟨k', l', rfl, h1, h2⟩
        simp only [pres, rowsP_append]
        rw [ih k (hl k (by simp)) k' h1, ihl l' (fun k hk => hl k (by simp [hk])) h2]
    rw [this _ _ (fun _ h => h) hk]
  induction a generalizing b with
  | nil => simp only [Cpys] at h; rw [h]
  | cons k l ih =>
    obtain ⟨k', l', rfl, h1, h2⟩ := h
    simp only [pres, rowsP_append]
    rw [key _ _ h1, ih h2]
end Go.Proofs.Ytpglmeeledmkoaa
