import Derived.WalkKit
import Derived.Test.YtkkpghlcmcaoiaaDoorProg
import Derived.Test.YtkkpghlcmcaoiaaDoorVm
namespace Go.Gm
inductive Sm
 | t (n : Nat)
 | e
 | m (n : Nat)
deriving DecidableEq
abbrev Gr := List (Nat × List Sm)
def Sm.isM : Sm → Bool
 | .m _ => true
 | _ => false
/-! ### what comes to a row of good symbols -/
inductive Der (G : Gr) (gd : Bool) : Nat → Prop
 | mk (A : Nat) (r : List Sm) : (A, r) ∈ G → (∀ B, Sm.m B ∈ r → Der G gd B) → (gd = true ∨ ∀ x ∈ r, x.isM = true) → Der G gd A
def on (bs : List Bool) (A : Nat) : Prop := bs[A]? = some true
instance (bs : List Bool) (A : Nat) : Decidable (on bs A) := inferInstanceAs (Decidable (_ = _))
def okR (gd : Bool) (bs : List Bool) (r : List Sm) : Prop := (∀ B, Sm.m B ∈ r → on bs B) ∧ (gd = true ∨ ∀ x ∈ r, x.isM = true)
theorem Der.of_closed {G : Gr} {gd : Bool} {bs : List Bool} (h : ∀ A r, (A, r) ∈ G → okR gd bs r → on bs A) : ∀ {A}, Der G gd A → on bs A := fun {A} hd => by
 induction hd with
 | mk A r hm _ hg ih => exact h A r hm ⟨ih, hg⟩
structure IsD (G : Gr) (gd : Bool) (n : Nat) (bs : List Bool) : Prop where
 len : bs.length = n
 iff : ∀ A, on bs A ↔ Der G gd A
theorem bools_ext {a b : List Bool} (hl : a.length = b.length) (h : ∀ A, on a A ↔ on b A) : a = b := by
 refine List.ext_getElem? fun i => ?_
 have := h i
 unfold on at this
 rcases Nat.lt_or_ge i a.length with hi | hi
 ·rw [List.getElem?_eq_getElem hi, List.getElem?_eq_getElem (by omega)] at this ⊢
  cases ha : a[i] <;> cases hb : b[i] <;> simp_all
 ·rw [List.getElem?_eq_none hi, List.getElem?_eq_none (by omega)]
theorem IsD.same {G G' : Gr} {gd : Bool} {n : Nat} {a b : List Bool} (ha : IsD G gd n a) (hb : IsD G' gd n b) (h : ∀ A, Der G gd A ↔ Der G' gd A) : a = b :=
 bools_ext (ha.len.trans hb.len.symm) fun A => (ha.iff A).trans ((h A).trans (hb.iff A).symm)
/-! ### what is reached -/
inductive Rch (G : Gr) (s : Nat) : Sm → Prop
 | start : Rch G s (.m s)
 | step {A : Nat} {r : List Sm} {x : Sm} : Rch G s (.m A) → (A, r) ∈ G → x ∈ r → Rch G s x
/-! ### the least cost -/
inductive CR (G : Gr) (add tc : Nat) : List Sm → Nat → Prop
 | nil : CR G add tc [] 0
 | term {x : Sm} {r : List Sm} {k : Nat} : x.isM = false → CR G add tc r k → CR G add tc (x :: r) (tc + k)
 | name {A : Nat} {q r : List Sm} {i k : Nat} : (A, q) ∈ G → CR G add tc q i → CR G add tc r k → CR G add tc (.m A :: r) (add + i + k)
def CN (G : Gr) (add tc : Nat) (A k : Nat) : Prop := ∃ q i, (A, q) ∈ G ∧ CR G add tc q i ∧ k = add + i
def val (tc : Nat) (V : Nat → Nat) : Sm → Nat
 | .m B => V B
 | _ => tc
def sumV (tc : Nat) (V : Nat → Nat) : List Sm → Nat
 | [] => 0
 | x :: r => val tc V x + sumV tc V r
structure IsC (G : Gr) (add tc top : Nat) (V : Nat → Nat) : Prop where
 le : ∀ A, V A ≤ top
 snd : ∀ A, V A < top → CN G add tc A (V A)
 cl : ∀ A r, (A, r) ∈ G → V A ≤ add + sumV tc V r
theorem sumV_le {G : Gr} {add tc : Nat} {V : Nat → Nat} (h : ∀ A r, (A, r) ∈ G → V A ≤ add + sumV tc V r) : ∀ {r k}, CR G add tc r k → sumV tc V r ≤ k := fun {r k} hc => by
 induction hc with
 | nil => exact Nat.le_refl _
 | @term x r k hx _ ih =>
  have : val tc V x = tc := by cases x <;> simp_all [val, Sm.isM]
  simp only [sumV, this]; omega
 | @name A q r i k hm _ _ ih1 ih2 =>
  have := h A q hm
  simp only [sumV, val]; omega
theorem IsC.min {G : Gr} {add tc top : Nat} {V : Nat → Nat} (h : IsC G add tc top V) {A k : Nat} (hk : CN G add tc A k) : V A ≤ k := by
 obtain ⟨q, i, hm, hc, rfl⟩ := hk
 have h1 := h.cl A q hm
 have h2 := sumV_le h.cl hc
 omega
theorem IsC.same {G G' : Gr} {add tc top : Nat} {V V' : Nat → Nat} (h : IsC G add tc top V) (h' : IsC G' add tc top V') (hG : ∀ A k, CN G add tc A k ↔ CN G' add tc A k) : ∀ A, V A = V' A := fun A => by
 have key : ∀ {G G' : Gr} {V V' : Nat → Nat}, IsC G add tc top V → IsC G' add tc top V' → (∀ A k, CN G' add tc A k → CN G add tc A k) → V A ≤ V' A := fun {G G' V V'} h h' hG => by
  rcases Nat.lt_or_ge (V' A) top with h1 | h1
  ·exact h.min (hG _ _ (h'.snd A h1))
  ·exact Nat.le_trans (h.le A) h1
 exact Nat.le_antisymm (key h h' fun A k hk => (hG A k).2 hk) (key h' h fun A k hk => (hG A k).1 hk)
/-! ### with what a row begins -/
inductive FiR (G : Gr) (nl : Nat) : List Sm → Nat → Prop
 | t {n : Nat} {r : List Sm} : FiR G nl (.t n :: r) n
 | e {r : List Sm} : FiR G nl (.e :: r) nl
 | m {A t : Nat} {q r : List Sm} : (A, q) ∈ G → FiR G nl q t → FiR G nl (.m A :: r) t
 | skip {A t : Nat} {r : List Sm} : Der G false A → FiR G nl r t → FiR G nl (.m A :: r) t
def FiN (G : Gr) (nl A t : Nat) : Prop := ∃ q, (A, q) ∈ G ∧ FiR G nl q t
def NuR (G : Gr) (r : List Sm) : Prop := ∀ x ∈ r, ∃ B, x = .m B ∧ Der G false B
def Hd (nl : Nat) (F : Nat → Nat → Prop) (E : Nat → Prop) : List Sm → Nat → Prop
 | [], _ => False
 | .t n :: _, t => t = n
 | .e :: _, t => t = nl
 | .m A :: r, t => F A t ∨ (E A ∧ Hd nl F E r t)
def Em (E : Nat → Prop) : List Sm → Prop
 | [] => True
 | .m A :: r => E A ∧ Em E r
 | _ :: _ => False
theorem Em_nu {G : Gr} : ∀ r : List Sm, Em (Der G false) r ↔ NuR G r
 | [] => by simp [Em, NuR]
 | .t n :: r => by simp [Em, NuR]
 | .e :: r => by simp [Em, NuR]
 | .m A :: r => by
  have ih := Em_nu (G := G) r
  simp only [Em, ih, NuR, List.mem_cons]
  constructor
  ·rintro ⟨h1, h2⟩ x (rfl | hx)
   ·exact ⟨A, rfl, h1⟩
   ·exact h2 x hx
  ·intro h
   refine ⟨?_, fun x hx => h x (.inr hx)⟩
   obtain ⟨B, hB, hd⟩ := h (.m A) (.inl rfl)
   cases hB; exact hd
structure IsF (G : Gr) (nl : Nat) (F : Nat → Nat → Prop) : Prop where
 snd : ∀ A t, F A t → FiN G nl A t
 cl : ∀ A r, (A, r) ∈ G → ∀ t, Hd nl F (Der G false) r t → F A t
theorem Hd_of {G : Gr} {nl : Nat} {F : Nat → Nat → Prop} (h : ∀ A r, (A, r) ∈ G → ∀ t, Hd nl F (Der G false) r t → F A t) : ∀ {r t}, FiR G nl r t → Hd nl F (Der G false) r t := fun {r t} hf => by
 induction hf with
 | t => rfl
 | e => rfl
 | m hm _ ih => exact .inl (h _ _ hm _ ih)
 | skip hd _ ih => exact .inr ⟨hd, ih⟩
theorem FiR_of {G : Gr} {nl : Nat} {F : Nat → Nat → Prop} (h : ∀ A t, F A t → FiN G nl A t) : ∀ {r : List Sm} {t : Nat}, Hd nl F (Der G false) r t → FiR G nl r t
 | [], _, h' => h'.elim
 | .t n :: _, t, h' => by cases h'; exact .t
 | .e :: _, t, h' => by cases h'; exact .e
 | .m A :: r, t, h' => by
  rcases h' with h' | ⟨h1, h2⟩
  ·obtain ⟨q, hm, hq⟩ := h A t h'; exact .m hm hq
  ·exact .skip h1 (FiR_of h h2)
theorem IsF.iff {G : Gr} {nl : Nat} {F : Nat → Nat → Prop} (h : IsF G nl F) (A t : Nat) : F A t ↔ FiN G nl A t :=
 ⟨h.snd A t, fun ⟨q, hm, hq⟩ => h.cl A q hm t (Hd_of h.cl hq)⟩
theorem IsF.hd {G : Gr} {nl : Nat} {F : Nat → Nat → Prop} (h : IsF G nl F) (r : List Sm) (t : Nat) : Hd nl F (Der G false) r t ↔ FiR G nl r t := ⟨FiR_of h.snd, Hd_of h.cl⟩
/-! ### what follows -/
inductive Fo (G : Gr) (nl s : Nat) : Nat → Nat → Prop
 | start : Fo G nl s s (nl + 1)
 | head {A B t : Nat} {a b : List Sm} : (A, a ++ .m B :: b) ∈ G → FiR G nl b t → Fo G nl s B t
 | pass {A B t : Nat} {a b : List Sm} : (A, a ++ .m B :: b) ∈ G → NuR G b → Fo G nl s A t → Fo G nl s B t
structure IsO (G : Gr) (nl s : Nat) (F : Nat → Nat → Prop) : Prop where
 snd : ∀ A t, F A t → Fo G nl s A t
 st : F s (nl + 1)
 cl : ∀ A B a b, (A, a ++ .m B :: b) ∈ G → ∀ t, FiR G nl b t ∨ (NuR G b ∧ F A t) → F B t
theorem IsO.iff {G : Gr} {nl s : Nat} {F : Nat → Nat → Prop} (h : IsO G nl s F) (A t : Nat) : F A t ↔ Fo G nl s A t :=
 ⟨h.snd A t, fun hf => by
  induction hf with
  | start => exact h.st
  | head hm hf => exact h.cl _ _ _ _ hm _ (.inl hf)
  | pass hm hn _ ih => exact h.cl _ _ _ _ hm _ (.inr ⟨hn, ih⟩)⟩
/-! ### rows of terminals that are made -/
inductive MT (G : Gr) (nl : Nat) : List Sm → List Nat → Prop
 | nil : MT G nl [] []
 | t {n : Nat} {r : List Sm} {u : List Nat} : MT G nl r u → MT G nl (.t n :: r) (n :: u)
 | e {r : List Sm} {u : List Nat} : MT G nl r u → MT G nl (.e :: r) (nl :: u)
 | m {A : Nat} {q r : List Sm} {v u : List Nat} : (A, q) ∈ G → MT G nl q v → MT G nl r u → MT G nl (.m A :: r) (v ++ u)
def MN (G : Gr) (nl A : Nat) (u : List Nat) : Prop := ∃ q, (A, q) ∈ G ∧ MT G nl q u
def lex : List Nat → List Nat → Prop
 | [], [] => False
 | [], _ :: _ => True
 | _ :: _, [] => False
 | x :: a, y :: b => x < y ∨ (x = y ∧ lex a b)
instance lexDec : ∀ a b : List Nat, Decidable (lex a b)
 | [], [] => isFalse id
 | [], _ :: _ => isTrue trivial
 | _ :: _, [] => isFalse id
 | x :: a, y :: b => by
  have := lexDec a b
  unfold lex
  exact inferInstance
def less (a b : List Nat) : Prop := a.length < b.length ∨ (a.length = b.length ∧ lex a b)
instance (a b : List Nat) : Decidable (less a b) := inferInstanceAs (Decidable (_ ∨ _))
theorem lex_irr : ∀ a : List Nat, ¬lex a a
 | [], h => h
 | x :: a, h => by
  rcases h with h | ⟨_, h⟩
  ·omega
  ·exact lex_irr a h
theorem lex_tri : ∀ a b : List Nat, a.length = b.length → lex a b ∨ a = b ∨ lex b a
 | [], [], _ => .inr (.inl rfl)
 | [], _ :: _, h => by simp at h
 | _ :: _, [], h => by simp at h
 | x :: a, y :: b, h => by
  rcases Nat.lt_trichotomy x y with h1 | h1 | h1
  ·exact .inl (.inl h1)
  ·subst h1
   rcases lex_tri a b (by simpa using h) with h2 | h2 | h2
   ·exact .inl (.inr ⟨rfl, h2⟩)
   ·exact .inr (.inl (by rw [h2]))
   ·exact .inr (.inr (.inr ⟨rfl, h2⟩))
  ·exact .inr (.inr (.inl h1))
theorem lex_trans : ∀ {a b c : List Nat}, lex a b → lex b c → lex a c
 | [], _ :: _, _ :: _, _, _ => trivial
 | x :: a, y :: b, z :: c, h, h' => by
  rcases h with h | ⟨rfl, h⟩
  ·rcases h' with h' | ⟨rfl, _⟩
   ·exact .inl (Nat.lt_trans h h')
   ·exact .inl h
  ·rcases h' with h' | ⟨rfl, h'⟩
   ·exact .inl h'
   ·exact .inr ⟨rfl, lex_trans h h'⟩
 | [], [], _, h, _ => h.elim
 | _ :: _, [], _, h, _ => h.elim
 | [], _ :: _, [], _, h => h.elim
 | _ :: _, _ :: _, [], _, h => h.elim
theorem less_irr (a : List Nat) : ¬less a a := fun h => by
 rcases h with h | ⟨_, h⟩
 ·omega
 ·exact lex_irr a h
theorem less_trans {a b c : List Nat} (h : less a b) (h' : less b c) : less a c := by
 rcases h with h | ⟨h1, h2⟩
 ·rcases h' with h' | ⟨h3, _⟩
  ·exact .inl (by omega)
  ·exact .inl (by omega)
 ·rcases h' with h' | ⟨h3, h4⟩
  ·exact .inl (by omega)
  ·exact .inr ⟨by omega, lex_trans h2 h4⟩
theorem less_tri (a b : List Nat) : less a b ∨ a = b ∨ less b a := by
 rcases Nat.lt_trichotomy a.length b.length with h | h | h
 ·exact .inl (.inl h)
 ·rcases lex_tri a b h with h1 | h1 | h1
  ·exact .inl (.inr ⟨h, h1⟩)
  ·exact .inr (.inl h1)
  ·exact .inr (.inr (.inr ⟨h.symm, h1⟩))
 ·exact .inr (.inr (.inl h))
def leq (a b : List Nat) : Prop := ¬less b a
theorem leq_refl (a : List Nat) : leq a a := less_irr a
theorem leq_iff {a b : List Nat} : leq a b ↔ less a b ∨ a = b := by
 constructor
 ·intro h
  rcases less_tri a b with h1 | h1 | h1
  ·exact .inl h1
  ·exact .inr h1
  ·exact absurd h1 h
 ·rintro (h | rfl) h'
  ·exact less_irr _ (less_trans h h')
  ·exact less_irr _ h'
theorem leq_trans {a b c : List Nat} (h : leq a b) (h' : leq b c) : leq a c := by
 rcases leq_iff.1 h with h1 | rfl
 ·rcases leq_iff.1 h' with h2 | rfl
  ·exact leq_iff.2 (.inl (less_trans h1 h2))
  ·exact h
 ·exact h'
theorem leq_anti {a b : List Nat} (h : leq a b) (h' : leq b a) : a = b := by
 rcases leq_iff.1 h with h1 | h1
 ·exact absurd h1 h'
 ·exact h1
theorem lex_app : ∀ {a b : List Nat} (c d : List Nat), a.length = b.length → lex a b → lex (a ++ c) (b ++ d)
 | [], [], _, _, _, h => h.elim
 | [], _ :: _, _, _, h, _ => by simp at h
 | _ :: _, [], _, _, h, _ => by simp at h
 | x :: a, y :: b, c, d, hl, h => by
  rcases h with h | ⟨rfl, h⟩
  ·exact .inl h
  ·exact .inr ⟨rfl, lex_app c d (by simpa using hl) h⟩
theorem lex_pre : ∀ (a : List Nat) {c d : List Nat}, lex c d → lex (a ++ c) (a ++ d)
 | [], _, _, h => h
 | _ :: a, _, _, h => .inr ⟨rfl, lex_pre a h⟩
theorem leq_len {a b : List Nat} (h : leq a b) : a.length ≤ b.length := by
 rcases leq_iff.1 h with (h1 | ⟨h1, _⟩) | rfl <;> omega
theorem leq_app {a b c d : List Nat} (h : leq a b) (h' : leq c d) : leq (a ++ c) (b ++ d) := by
 have l1 := leq_len h
 have l2 := leq_len h'
 rcases Nat.lt_or_ge (a.length + c.length) (b.length + d.length) with hl | hl
 ·exact leq_iff.2 (.inl (.inl (by simpa using hl)))
 ·have e1 : a.length = b.length := by omega
  have e2 : c.length = d.length := by omega
  rcases leq_iff.1 h with (h1 | ⟨_, h1⟩) | rfl
  ·omega
  ·exact leq_iff.2 (.inl (.inr ⟨by simp [e1, e2], lex_app c d e1 h1⟩))
  ·rcases leq_iff.1 h' with (h2 | ⟨_, h2⟩) | rfl
   ·omega
   ·exact leq_iff.2 (.inl (.inr ⟨by simp [e2], lex_pre a h2⟩))
   ·exact leq_refl _
def Yd (G : Gr) (nl A : Nat) (u : List Nat) : Prop := MN G nl A u ∧ ∀ v, MN G nl A v → leq u v
theorem Yd.same {G G' : Gr} {nl A : Nat} {u v : List Nat} (h : Yd G nl A u) (h' : Yd G' nl A v) (hG : ∀ u, MN G nl A u ↔ MN G' nl A u) : u = v :=
 leq_anti (h.2 v ((hG v).2 h'.1)) (h'.2 u ((hG u).1 h.1))
/-! ### a row of k terminals costs k -/
theorem CR_of_MT {G : Gr} {nl : Nat} : ∀ {r u}, MT G nl r u → CR G 0 1 r u.length := fun {r u} h => by
 induction h with
 | nil => exact .nil
 | t _ ih => rw [List.length_cons, Nat.add_comm]; exact .term rfl ih
 | e _ ih => rw [List.length_cons, Nat.add_comm]; exact .term rfl ih
 | m hm _ _ ih1 ih2 => rw [List.length_append, ← Nat.zero_add (_ + _), ← Nat.add_assoc]; exact .name hm ih1 ih2
theorem MT_of_CR {G : Gr} {nl : Nat} : ∀ {r k}, CR G 0 1 r k → ∃ u, MT G nl r u ∧ u.length = k := fun {r k} h => by
 induction h with
 | nil => exact ⟨[], .nil, rfl⟩
 | @term x r k hx _ ih =>
  obtain ⟨u, h1, h2⟩ := ih
  cases x with
  | t n => exact ⟨n :: u, .t h1, by simp [h2]; omega⟩
  | e => exact ⟨nl :: u, .e h1, by simp [h2]; omega⟩
  | m n => cases hx
 | name hm _ _ ih1 ih2 =>
  obtain ⟨u, h1, h2⟩ := ih1
  obtain ⟨v, h3, h4⟩ := ih2
  exact ⟨u ++ v, .m hm h1 h3, by simp [h2, h4]⟩
theorem CN_MN {G : Gr} {nl A k : Nat} : CN G 0 1 A k ↔ ∃ u, MN G nl A u ∧ u.length = k := by
 constructor
 ·rintro ⟨q, i, hm, hc, rfl⟩
  obtain ⟨u, h1, h2⟩ := MT_of_CR (nl := nl) hc
  exact ⟨u, ⟨q, hm, h1⟩, by omega⟩
 ·rintro ⟨u, ⟨q, hm, hq⟩, rfl⟩
  exact ⟨q, u.length, hm, CR_of_MT hq, by omega⟩
/-! ### the program's rows: of the least lengths -/
def mkR (nl : Nat) (R : Nat → List Nat) : List Sm → List Nat
 | [] => []
 | .t n :: r => n :: mkR nl R r
 | .e :: r => nl :: mkR nl R r
 | .m A :: r => R A ++ mkR nl R r
structure IsY (G : Gr) (nl : Nat) (V : Nat → Nat) (R : Nat → List Nat) : Prop where
 snd : ∀ A, R A ≠ [] → MN G nl A (R A) ∧ (R A).length = V A
 cl : ∀ A r, (A, r) ∈ G → (∀ B, Sm.m B ∈ r → V B > 0 → R B ≠ []) → (mkR nl R r).length = V A → mkR nl R r ≠ [] → R A ≠ [] ∧ leq (R A) (mkR nl R r)
theorem MT.len_ge {G : Gr} {nl top : Nat} {V : Nat → Nat} (hV : IsC G 0 1 top V) {r : List Sm} {u : List Nat} (h : MT G nl r u) : sumV 1 V r ≤ u.length := sumV_le hV.cl (CR_of_MT h)
theorem mkR_len {nl : Nat} {V : Nat → Nat} {R : Nat → List Nat} : ∀ {r : List Sm}, (∀ B, Sm.m B ∈ r → (R B).length = V B) → (mkR nl R r).length = sumV 1 V r
 | [], _ => rfl
 | .t n :: r, h => by
  have ih := mkR_len (nl := nl) (V := V) (R := R) (r := r) fun B hB => h B (by simp [hB])
  simp only [mkR, sumV, val, List.length_cons, ih]; omega
 | .e :: r, h => by
  have ih := mkR_len (nl := nl) (V := V) (R := R) (r := r) fun B hB => h B (by simp [hB])
  simp only [mkR, sumV, val, List.length_cons, ih]; omega
 | .m A :: r, h => by
  have ih := mkR_len (nl := nl) (V := V) (R := R) (r := r) fun B hB => h B (by simp [hB])
  simp only [mkR, sumV, val, List.length_append, ih, h A (by simp)]
theorem IsY.all {G : Gr} {nl top : Nat} {V : Nat → Nat} {R : Nat → List Nat} (h : IsY G nl V R) (hV : IsC G 0 1 top V) : ∀ {r u}, MT G nl r u → u.length = sumV 1 V r → (∀ B, Sm.m B ∈ r → (R B).length = V B) ∧ leq (mkR nl R r) u := fun {r u} hm => by
 induction hm with
 | nil => intro _; exact ⟨fun B hB => by simp at hB, leq_refl _⟩
 | @t n r u hm ih =>
  intro hl
  simp only [sumV, val, List.length_cons] at hl
  obtain ⟨h1, h2⟩ := ih (by omega)
  exact ⟨fun B hB => h1 B (by simpa using hB), leq_app (a := [n]) (b := [n]) (leq_refl _) h2⟩
 | @e r u hm ih =>
  intro hl
  simp only [sumV, val, List.length_cons] at hl
  obtain ⟨h1, h2⟩ := ih (by omega)
  exact ⟨fun B hB => h1 B (by simpa using hB), leq_app (a := [nl]) (b := [nl]) (leq_refl _) h2⟩
 | @m A q r v u hG hq hr ih1 ih2 =>
  intro hl
  simp only [sumV, val, List.length_append] at hl
  have g1 := hV.cl A q hG
  have g2 := hq.len_ge hV
  have g3 := hr.len_ge hV
  obtain ⟨h1, h2⟩ := ih1 (by omega)
  obtain ⟨h3, h4⟩ := ih2 (by omega)
  have hml := mkR_len (nl := nl) h1
  have hA : (R A).length = V A ∧ leq (R A) v := by
   rcases Nat.eq_zero_or_pos (V A) with h0 | h0
   ·have : R A = [] := by
     by_cases hR : R A = []
     ·exact hR
     ·have := (h.snd A hR).2
      exact List.eq_nil_of_length_eq_zero (by omega)
    have hv : v = [] := List.eq_nil_of_length_eq_zero (by omega)
    rw [this, hv, h0]; exact ⟨rfl, leq_refl _⟩
   ·have hne : mkR nl R q ≠ [] := fun he => by rw [he] at hml; simp at hml; omega
    obtain ⟨c1, c2⟩ := h.cl A q hG (fun B hB hp he => by have := h1 B hB; rw [he] at this; simp at this; omega) (by omega) hne
    exact ⟨(h.snd A c1).2, leq_trans c2 h2⟩
  refine ⟨fun B hB => ?_, leq_app hA.2 h4⟩
  rcases List.mem_cons.1 hB with hB | hB
  ·cases hB; exact hA.1
  ·exact h3 B hB
theorem IsY.least {G : Gr} {nl top : Nat} {V : Nat → Nat} {R : Nat → List Nat} (h : IsY G nl V R) (hV : IsC G 0 1 top V) {A : Nat} (hA : V A < top) : Yd G nl A (R A) := by
 have hs := hV.snd A hA
 obtain ⟨u0, hu0, hl0⟩ := (CN_MN (nl := nl)).1 hs
 have key : ∀ u, MN G nl A u → u.length = V A → (R A).length = V A ∧ leq (R A) u := by
  rintro u ⟨q, hm, hq⟩ hl
  have g1 := hV.cl A q hm
  have g2 := hq.len_ge hV
  obtain ⟨h1, h2⟩ := h.all hV hq (by omega)
  have hml := mkR_len (nl := nl) h1
  rcases Nat.eq_zero_or_pos (V A) with h0 | h0
  ·have : R A = [] := by
    by_cases hR : R A = []
    ·exact hR
    ·have := (h.snd A hR).2
     exact List.eq_nil_of_length_eq_zero (by omega)
   have hv : u = [] := List.eq_nil_of_length_eq_zero (by omega)
   rw [this, hv, h0]; exact ⟨rfl, leq_refl _⟩
  ·have hne : mkR nl R q ≠ [] := fun he => by rw [he] at hml; simp at hml; omega
   obtain ⟨c1, c2⟩ := h.cl A q hm (fun B hB hp he => by have := h1 B hB; rw [he] at this; simp at this; omega) (by omega) hne
   exact ⟨(h.snd A c1).2, leq_trans c2 h2⟩
 refine ⟨?_, fun v hv => ?_⟩
 ·by_cases hR : R A = []
  ·have := (key u0 hu0 hl0).1
   rw [hR] at this
   have : u0 = [] := List.eq_nil_of_length_eq_zero (by rw [hl0]; simpa using this.symm)
   rw [hR, ← this]; exact hu0
  ·exact (h.snd A hR).1
 ·have h1 := hV.min ((CN_MN (nl := nl)).2 ⟨v, hv, rfl⟩)
  have h2 := (key u0 hu0 hl0).1
  rcases Nat.lt_or_ge (V A) v.length with h3 | h3
  ·exact leq_iff.2 (.inl (.inl (by omega)))
  ·exact (key v hv (by omega)).2
/-! ### the reference's rows -/
structure IsZ (G : Gr) (nl mx : Nat) (H : Nat → Option (List Nat)) : Prop where
 snd : ∀ A u, H A = some u → MN G nl A u ∧ u.length ≤ mx
 cl : ∀ A r, (A, r) ∈ G → (∀ B, Sm.m B ∈ r → (H B).isSome) → (mkR nl (fun B => (H B).getD []) r).length ≤ mx → ∃ u, H A = some u ∧ leq u (mkR nl (fun B => (H B).getD []) r)
theorem IsZ.all {G : Gr} {nl mx : Nat} {H : Nat → Option (List Nat)} (h : IsZ G nl mx H) : ∀ {r u}, MT G nl r u → u.length ≤ mx → (∀ B, Sm.m B ∈ r → (H B).isSome) ∧ leq (mkR nl (fun B => (H B).getD []) r) u := fun {r u} hm => by
 induction hm with
 | nil => intro _; exact ⟨fun B hB => by simp at hB, leq_refl _⟩
 | @t n r u hm ih =>
  intro hl
  simp only [List.length_cons] at hl
  obtain ⟨h1, h2⟩ := ih (by omega)
  exact ⟨fun B hB => h1 B (by simpa using hB), leq_app (a := [n]) (b := [n]) (leq_refl _) h2⟩
 | @e r u hm ih =>
  intro hl
  simp only [List.length_cons] at hl
  obtain ⟨h1, h2⟩ := ih (by omega)
  exact ⟨fun B hB => h1 B (by simpa using hB), leq_app (a := [nl]) (b := [nl]) (leq_refl _) h2⟩
 | @m A q r v u hG hq hr ih1 ih2 =>
  intro hl
  simp only [List.length_append] at hl
  obtain ⟨h1, h2⟩ := ih1 (by omega)
  obtain ⟨h3, h4⟩ := ih2 (by omega)
  obtain ⟨w, c1, c2⟩ := h.cl A q hG h1 (by have := leq_len h2; omega)
  refine ⟨fun B hB => ?_, ?_⟩
  ·rcases List.mem_cons.1 hB with hB | hB
   ·cases hB; rw [c1]; rfl
   ·exact h3 B hB
  ·simp only [mkR, c1, Option.getD_some]
   exact leq_app (leq_trans c2 h2) h4
theorem IsZ.least {G : Gr} {nl mx : Nat} {H : Nat → Option (List Nat)} (h : IsZ G nl mx H) {A : Nat} {u : List Nat} (hu : H A = some u) : Yd G nl A u := by
 refine ⟨(h.snd A u hu).1, fun v hv => ?_⟩
 rcases Nat.lt_or_ge mx v.length with h1 | h1
 ·exact leq_iff.2 (.inl (.inl (by have := (h.snd A u hu).2; omega)))
 ·obtain ⟨q, hm, hq⟩ := hv
  obtain ⟨h2, h3⟩ := h.all hq h1
  obtain ⟨w, c1, c2⟩ := h.cl A q hm h2 (by have := leq_len h3; omega)
  rw [hu] at c1; cases c1
  exact leq_trans c2 h3
/-! ### productions in another order, some twice: nothing changes -/
section
variable {G G' : Gr} (hG : ∀ p, p ∈ G ↔ p ∈ G')
include hG
theorem Der.eqv {gd : Bool} {A : Nat} : Der G gd A ↔ Der G' gd A := by
 have key : ∀ {G G' : Gr}, (∀ p, p ∈ G → p ∈ G') → ∀ {A}, Der G gd A → Der G' gd A := fun {G G'} h {A} hd => by
  induction hd with
  | mk A r hm _ hg ih => exact .mk A r (h _ hm) ih hg
 exact ⟨key fun p hp => (hG p).1 hp, key fun p hp => (hG p).2 hp⟩
theorem Rch.eqv {s : Nat} {x : Sm} : Rch G s x ↔ Rch G' s x := by
 have key : ∀ {G G' : Gr}, (∀ p, p ∈ G → p ∈ G') → ∀ {x}, Rch G s x → Rch G' s x := fun {G G'} h {x} hd => by
  induction hd with
  | start => exact .start
  | step _ hm hx ih => exact .step ih (h _ hm) hx
 exact ⟨key fun p hp => (hG p).1 hp, key fun p hp => (hG p).2 hp⟩
theorem CR.eqv {add tc : Nat} {r : List Sm} {k : Nat} : CR G add tc r k ↔ CR G' add tc r k := by
 have key : ∀ {G G' : Gr}, (∀ p, p ∈ G → p ∈ G') → ∀ {r k}, CR G add tc r k → CR G' add tc r k := fun {G G'} h {r k} hd => by
  induction hd with
  | nil => exact .nil
  | term hx _ ih => exact .term hx ih
  | name hm _ _ ih1 ih2 => exact .name (h _ hm) ih1 ih2
 exact ⟨key fun p hp => (hG p).1 hp, key fun p hp => (hG p).2 hp⟩
theorem CN.eqv {add tc A k : Nat} : CN G add tc A k ↔ CN G' add tc A k :=
 ⟨fun ⟨q, i, h1, h2, h3⟩ => ⟨q, i, (hG _).1 h1, (CR.eqv hG).1 h2, h3⟩, fun ⟨q, i, h1, h2, h3⟩ => ⟨q, i, (hG _).2 h1, (CR.eqv hG).2 h2, h3⟩⟩
theorem FiR.eqv {nl : Nat} {r : List Sm} {t : Nat} : FiR G nl r t ↔ FiR G' nl r t := by
 have key : ∀ {G G' : Gr}, (∀ p, p ∈ G → p ∈ G') → (∀ {A}, Der G false A → Der G' false A) → ∀ {r t}, FiR G nl r t → FiR G' nl r t := fun {G G'} h hD {r t} hd => by
  induction hd with
  | t => exact .t
  | e => exact .e
  | m hm _ ih => exact .m (h _ hm) ih
  | skip hd _ ih => exact .skip (hD hd) ih
 exact ⟨key (fun p hp => (hG p).1 hp) (Der.eqv hG).1, key (fun p hp => (hG p).2 hp) (Der.eqv hG).2⟩
theorem FiN.eqv {nl A t : Nat} : FiN G nl A t ↔ FiN G' nl A t :=
 ⟨fun ⟨q, h1, h2⟩ => ⟨q, (hG _).1 h1, (FiR.eqv hG).1 h2⟩, fun ⟨q, h1, h2⟩ => ⟨q, (hG _).2 h1, (FiR.eqv hG).2 h2⟩⟩
theorem NuR.eqv {r : List Sm} : NuR G r ↔ NuR G' r :=
 ⟨fun h x hx => (h x hx).elim fun B ⟨h1, h2⟩ => ⟨B, h1, (Der.eqv hG).1 h2⟩, fun h x hx => (h x hx).elim fun B ⟨h1, h2⟩ => ⟨B, h1, (Der.eqv hG).2 h2⟩⟩
theorem Fo.eqv {nl s A t : Nat} : Fo G nl s A t ↔ Fo G' nl s A t := by
 have key : ∀ {G G' : Gr}, (∀ p, p ∈ G → p ∈ G') → (∀ {r t}, FiR G nl r t → FiR G' nl r t) → (∀ {r}, NuR G r → NuR G' r) → ∀ {A t}, Fo G nl s A t → Fo G' nl s A t := fun {G G'} h hF hN {A t} hd => by
  induction hd with
  | start => exact .start
  | head hm hf => exact .head (h _ hm) (hF hf)
  | pass hm hn _ ih => exact .pass (h _ hm) (hN hn) ih
 exact ⟨key (fun p hp => (hG p).1 hp) (FiR.eqv hG).1 (NuR.eqv hG).1, key (fun p hp => (hG p).2 hp) (FiR.eqv hG).2 (NuR.eqv hG).2⟩
theorem MT.eqv {nl : Nat} {r : List Sm} {u : List Nat} : MT G nl r u ↔ MT G' nl r u := by
 have key : ∀ {G G' : Gr}, (∀ p, p ∈ G → p ∈ G') → ∀ {r u}, MT G nl r u → MT G' nl r u := fun {G G'} h {r u} hd => by
  induction hd with
  | nil => exact .nil
  | t _ ih => exact .t ih
  | e _ ih => exact .e ih
  | m hm _ _ ih1 ih2 => exact .m (h _ hm) ih1 ih2
 exact ⟨key fun p hp => (hG p).1 hp, key fun p hp => (hG p).2 hp⟩
theorem MN.eqv {nl A : Nat} {u : List Nat} : MN G nl A u ↔ MN G' nl A u :=
 ⟨fun ⟨q, h1, h2⟩ => ⟨q, (hG _).1 h1, (MT.eqv hG).1 h2⟩, fun ⟨q, h1, h2⟩ => ⟨q, (hG _).2 h1, (MT.eqv hG).2 h2⟩⟩
end
end Go.Gm
namespace Go.Proofs.YtkkpghlcmcaoiaaDoor
open Go.Vc Go.Gm
abbrev Rv (s : Sem Value) (v : Value) (w : World) : Prop := Ru Tryd.prog (vS s) v w
structure Lx where
 nm : ByteArray
 tr : Bool
 kd : Int
 fr : Int
 to : Int
 mi : Int
 ma : Int
 ls : Value
def Lx.cells (x : Lx) : List Value := [.string x.nm, .bool x.tr, I6 x.kd, I6 x.fr, I6 x.to, I6 x.mi, I6 x.ma, x.ls]
abbrev Sy := Int × Int
structure Pd where
 l : Int
 ra : Option Addr
 rc : Nat
 r : List Sy
def Pd.rv (p : Pd) : Value := .slice p.ra p.r.length p.rc
def Pd.cells (p : Pd) : List Value := [I6 p.l, p.rv]
structure Sp where
 la : Option Addr
 lc : Nat
 lx : List Lx
 na : Option Addr
 nc : Nat
 ns : List ByteArray
 st : Int
 pa : Option Addr
 pc : Nat
 ps : List Pd
def Sp.lv (S : Sp) : Value := .slice S.la S.lx.length S.lc
def Sp.nv (S : Sp) : Value := .slice S.na S.ns.length S.nc
def Sp.pv (S : Sp) : Value := .slice S.pa S.ps.length S.pc
abbrev Sp.ca (S : Sp) : Array Value := #[S.lv, S.nv, I6 S.st, S.pv]
def Sp.cells (S : Sp) : List Value := [S.lv, S.nv, I6 S.st, S.pv]
def lcells (l : List Lx) : List Value := l.flatMap Lx.cells
def pcells (l : List Pd) : List Value := l.flatMap Pd.cells
def ycells (l : List Sy) : List Value := l.flatMap fun x => [I6 x.1, I6 x.2]
def ncells (l : List ByteArray) : List Value := l.map .string
theorem flat_len {α : Type} {f : α → List Value} {k : Nat} (hf : ∀ x, (f x).length = k) : ∀ l : List α, (l.flatMap f).length = l.length * k
 | [] => by simp
 | x :: l => by rw [List.flatMap_cons, List.length_append, hf, flat_len hf l, List.length_cons, Nat.add_mul, Nat.one_mul, Nat.add_comm]
theorem flat_at {α : Type} {f : α → List Value} {k : Nat} (hf : ∀ x, (f x).length = k) : ∀ (l : List α) (j i : Nat) (x : α), l[j]? = some x → i < k → (l.flatMap f)[j * k + i]? = (f x)[i]?
 | [], j, i, x, hj, _ => by simp at hj
 | y :: l, 0, i, x, hj, hi => by
  simp only [List.getElem?_cons_zero, Option.some.injEq] at hj
  subst hj
  rw [List.flatMap_cons, Nat.zero_mul, Nat.zero_add, List.getElem?_append_left (by rw [hf]; exact hi)]
 | y :: l, j + 1, i, x, hj, hi => by
  simp only [List.getElem?_cons_succ] at hj
  have ih := flat_at hf l j i x hj hi
  rw [List.flatMap_cons, List.getElem?_append_right (by rw [hf, Nat.add_mul, Nat.one_mul]; omega), hf, ← ih]
  congr 1
  rw [Nat.add_mul, Nat.one_mul]; omega
theorem lcells_at (l : List Lx) (j i : Nat) (x : Lx) (h : l[j]? = some x) (hi : i < 8) : (lcells l)[j * 8 + i]? = x.cells[i]? := flat_at (k := 8) (fun _ => rfl) l j i x h hi
theorem pcells_at (l : List Pd) (j i : Nat) (x : Pd) (h : l[j]? = some x) (hi : i < 2) : (pcells l)[j * 2 + i]? = x.cells[i]? := flat_at (k := 2) (fun _ => rfl) l j i x h hi
theorem ycells_at (l : List Sy) (j i : Nat) (x : Sy) (h : l[j]? = some x) (hi : i < 2) : (ycells l)[j * 2 + i]? = [I6 x.1, I6 x.2][i]? := flat_at (k := 2) (fun _ => rfl) l j i x h hi
theorem ycells_one : ∀ l : List Sy, oneAll (ycells l) = true
 | [] => rfl
 | x :: l => by simp only [ycells, List.flatMap_cons, List.cons_append, List.nil_append, oneAll]; exact ycells_one l
structure SpOk (w : World) (S : Sp) : Prop where
 lex : RdV w 8 S.lv S.lx.length (lcells S.lx)
 names : RdV w 1 S.nv S.ns.length (ncells S.ns)
 prods : RdV w 2 S.pv S.ps.length (pcells S.ps)
 right : ∀ p ∈ S.ps, RdV w 2 p.rv p.r.length (ycells p.r)
 lmax : S.lx.length ≤ 1048576
 nmax : S.ns.length ≤ 1048576
 pmax : S.ps.length ≤ 1048576
 rmax : ∀ p ∈ S.ps, p.r.length ≤ 1048576
abbrev Sn (S : Sp) (g : Nat) : Value := Sl g S.ns.length S.ns.length
theorem SpOk.ext0 {w w' : World} {S : Sp} (h : SpOk w S) (hE : Ext [] w w') : SpOk w' S :=
 ⟨h.lex.ext0 hE, h.names.ext0 hE, h.prods.ext0 hE, fun p hp => (h.right p hp).ext0 hE, h.lmax, h.nmax, h.pmax, h.rmax⟩
/-! ### in plain words -/
def syOk (S : Sp) (x : Sy) : Prop := (x.1 = 1 ∧ 0 ≤ x.2 ∧ x.2 < S.lx.length ∧ (∀ r, S.lx[x.2.toNat]? = some r → r.tr = false)) ∨ (x.1 = 2 ∧ x.2 = 0) ∨ (x.1 = 3 ∧ 0 ≤ x.2 ∧ x.2 < S.ns.length)
structure Ix (S : Sp) : Prop where
 st : 0 ≤ S.st ∧ S.st < S.ns.length
 left : ∀ p ∈ S.ps, 0 ≤ p.l ∧ p.l < S.ns.length
 right : ∀ p ∈ S.ps, ∀ x ∈ p.r, syOk S x
def sm (x : Sy) : Sm := if x.1 = 3 then .m x.2.toNat else if x.1 = 1 then .t x.2.toNat else .e
def row (r : List Sy) : List Sm := r.map sm
def Sp.g (S : Sp) : Gr := S.ps.map fun p => (p.l.toNat, row p.r)
def Sp.nl (S : Sp) : Nat := S.lx.length
def Sp.nn (S : Sp) : Nat := S.ns.length
theorem g_mem {S : Sp} {p : Pd} (h : p ∈ S.ps) : (p.l.toNat, row p.r) ∈ S.g := List.mem_map.2 ⟨p, h, rfl⟩
theorem g_of {S : Sp} {A : Nat} {r : List Sm} (h : (A, r) ∈ S.g) : ∃ p ∈ S.ps, p.l.toNat = A ∧ row p.r = r := by
 obtain ⟨p, hp, he⟩ := List.mem_map.1 h
 cases he
 exact ⟨p, hp, rfl, rfl⟩
theorem sm_name {x : Sy} : x.1 = 3 → sm x = .m x.2.toNat := fun h => by simp [sm, h]
theorem sm_m {x : Sy} {B : Nat} (h : sm x = .m B) : x.1 = 3 ∧ x.2.toNat = B := by
 unfold sm at h
 split at h
 ·rename_i h3; cases h; exact ⟨h3, rfl⟩
 ·split at h <;> cases h
theorem row_m {r : List Sy} {B : Nat} : Sm.m B ∈ row r ↔ ∃ x ∈ r, x.1 = 3 ∧ x.2.toNat = B := by
 constructor
 ·intro h
  obtain ⟨x, hx, he⟩ := List.mem_map.1 h
  exact ⟨x, hx, sm_m he⟩
 ·rintro ⟨x, hx, h3, rfl⟩
  exact List.mem_map.2 ⟨x, hx, sm_name h3⟩
end Go.Proofs.YtkkpghlcmcaoiaaDoor
