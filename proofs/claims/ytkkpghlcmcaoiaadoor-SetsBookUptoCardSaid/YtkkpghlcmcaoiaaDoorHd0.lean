import Derived.Test.YtkkpghlcmcaoiaaDoorS20
namespace Go.Proofs.YtkkpghlcmcaoiaaDoor
open Go.Vc Go.Gm
section
variable {la na pa r0 r1 r2 r4 r5 : Nat}
abbrev g0 : Gr := [(0, [.m 1, .m 2, .t 3]), (0, [.e]), (1, [.t 0, .m 1]), (1, []), (2, [.t 1]), (2, [.m 1])]
theorem g0_eq : (sp0 la na pa r0 r1 r2 r4 r5).g = g0 := by simp [Sp.g, sp0, row, sm]
theorem nl0 : (sp0 la na pa r0 r1 r2 r4 r5).nl = 4 := rfl
theorem d1 : Der g0 false 1 := .mk 1 [] (by simp) (fun B hB => by simp at hB) (.inr fun x hx => by simp at hx)
theorem d2 : Der g0 false 2 := .mk 2 [.m 1] (by simp) (fun B hB => by simp at hB; subst hB; exact d1) (.inr fun x hx => by simp at hx; subst hx; rfl)
theorem dt1 : Der g0 true 1 := .mk 1 [] (by simp) (fun B hB => by simp at hB) (.inl rfl)
theorem dt2 : Der g0 true 2 := .mk 2 [.m 1] (by simp) (fun B hB => by simp at hB; subst hB; exact dt1) (.inl rfl)
theorem dt0 : Der g0 true 0 := .mk 0 [.e] (by simp) (fun B hB => by simp at hB) (.inl rfl)
theorem lt3 {A : Nat} (h : A < 3) : A = 0 ∨ A = 1 ∨ A = 2 := by omega
theorem g0_mem {A : Nat} {r : List Sm} (h : (A, r) ∈ g0) : (A = 0 ∧ r = [.m 1, .m 2, .t 3]) ∨ (A = 0 ∧ r = [.e]) ∨ (A = 1 ∧ r = [.t 0, .m 1]) ∨ (A = 1 ∧ r = []) ∨ (A = 2 ∧ r = [.t 1]) ∨ (A = 2 ∧ r = [.m 1]) := by
 simpa [g0] using h
theorem rm1 : Rch g0 0 (.m 1) := .step .start (r := [.m 1, .m 2, .t 3]) (by simp) (by simp)
theorem rm2 : Rch g0 0 (.m 2) := .step .start (r := [.m 1, .m 2, .t 3]) (by simp) (by simp)
theorem ok0 : GOk (sp0 la na pa r0 r1 r2 r4 r5) := by
 have hn : (sp0 la na pa r0 r1 r2 r4 r5).ns.length = 3 := rfl
 refine ⟨?_, ?_, fun A hA => ?_, fun t r ht hr => ?_, fun A hA => ?_, fun A hA _ => ?_⟩
 ·rintro (h | h | h | ⟨p, hp, h⟩)
  ·simp [sp0] at h
  ·simp [sp0] at h
  ·simp [sp0] at h
  ·simp only [sp0, List.mem_cons, List.not_mem_nil, or_false] at hp
   rcases hp with rfl | rfl | rfl | rfl | rfl | rfl <;> simp at h
 ·refine ⟨by simp [sp0], fun p hp => ?_, fun p hp x hx => ?_⟩
  ·simp only [sp0, List.mem_cons, List.not_mem_nil, or_false] at hp
   rcases hp with rfl | rfl | rfl | rfl | rfl | rfl <;> simp [sp0]
  ·simp only [sp0, List.mem_cons, List.not_mem_nil, or_false] at hp
   have hl : ∀ n : Nat, n = 0 ∨ n = 1 ∨ n = 3 → ∀ r, (sp0 la na pa r0 r1 r2 r4 r5).lx[n]? = some r → r.tr = false := by
    rintro n (rfl | rfl | rfl) r hr <;> (simp [sp0] at hr; subst hr; rfl)
   rcases hp with rfl | rfl | rfl | rfl | rfl | rfl <;> simp at hx
   ·rcases hx with rfl | rfl | rfl
    ·exact .inr (.inr ⟨rfl, by decide, by simp [sp0]⟩)
    ·exact .inr (.inr ⟨rfl, by decide, by simp [sp0]⟩)
    ·exact .inl ⟨rfl, by decide, by simp [sp0], hl 3 (by simp)⟩
   ·subst hx; exact .inr (.inl ⟨rfl, rfl⟩)
   ·rcases hx with rfl | rfl
    ·exact .inl ⟨rfl, by decide, by simp [sp0], hl 0 (by simp)⟩
    ·exact .inr (.inr ⟨rfl, by decide, by simp [sp0]⟩)
   ·subst hx; exact .inl ⟨rfl, by decide, by simp [sp0], hl 1 (by simp)⟩
   ·subst hx; exact .inr (.inr ⟨rfl, by decide, by simp [sp0]⟩)
 ·rw [g0_eq]
  rcases lt3 hA with rfl | rfl | rfl
  ·exact .start
  ·exact rm1
  ·exact rm2
 ·rw [g0_eq]
  have : t < 4 := (List.getElem?_eq_some_iff.1 ht).1
  rcases (show t = 0 ∨ t = 1 ∨ t = 2 ∨ t = 3 by omega) with rfl | rfl | rfl | rfl
  ·exact .step rm1 (r := [.t 0, .m 1]) (by simp) (by simp)
  ·exact .step rm2 (r := [.t 1]) (by simp) (by simp)
  ·simp [sp0] at ht; subst ht; cases hr
  ·show Rch g0 0 (.t 3)
   exact .step .start (r := [.m 1, .m 2, .t 3]) (by simp) (by simp)
 ·rw [g0_eq]
  rcases lt3 hA with rfl | rfl | rfl
  ·exact dt0
  ·exact dt1
  ·exact dt2
 ·rw [g0_eq]
  rename_i hd
  rw [g0_eq] at hd
  rcases lt3 hA with rfl | rfl | rfl
  ·cases hd with
   | mk _ r hm h1 h2 =>
    rcases h2 with h2 | h2
    ·cases h2
    ·rcases g0_mem hm with ⟨_, rfl⟩ | ⟨_, rfl⟩ | ⟨h, _⟩ | ⟨h, _⟩ | ⟨h, _⟩ | ⟨h, _⟩
     ·have := h2 (.t 3) (by simp); cases this
     ·have := h2 .e (by simp); cases this
     all_goals omega
  ·exact ⟨1, by omega, [], 0, by simp, .nil, rfl⟩
  ·exact ⟨2, by omega, [.m 1], 1, by simp, .name (q := []) (i := 0) (k := 0) (by simp) .nil .nil, rfl⟩
/-! ### Follow -/
theorem em0 : IsD g0 false 3 [false, true, true] := by
 refine ⟨rfl, fun A => ⟨fun h => ?_, fun h => Der.of_closed (bs := [false, true, true]) (fun A r hm ho => ?_) h⟩⟩
 ·unfold on at h
  rcases (show A = 0 ∨ A = 1 ∨ A = 2 ∨ 3 ≤ A by omega) with rfl | rfl | rfl | h3
  ·simp at h
  ·exact d1
  ·exact d2
  ·rw [List.getElem?_eq_none (by simpa using h3)] at h; cases h
 ·obtain ⟨h1, h2⟩ := ho
  rcases h2 with h2 | h2
  ·cases h2
  rcases g0_mem hm with ⟨rfl, rfl⟩ | ⟨rfl, rfl⟩ | ⟨rfl, rfl⟩ | ⟨rfl, rfl⟩ | ⟨rfl, rfl⟩ | ⟨rfl, rfl⟩
  ·have := h2 (.t 3) (by simp); cases this
  ·have := h2 .e (by simp); cases this
  all_goals rfl
theorem fo1 {t : Nat} (h : t = 0 ∨ t = 1 ∨ t = 3) : Fo g0 4 0 1 t := by
 have hm : (0, [] ++ Sm.m 1 :: [.m 2, .t 3]) ∈ g0 := by simp
 rcases h with rfl | rfl | rfl
 ·exact .head hm (.m (q := [.m 1]) (by simp) (.m (q := [.t 0, .m 1]) (by simp) .t))
 ·exact .head hm (.m (q := [.t 1]) (by simp) .t)
 ·exact .head hm (.skip d2 .t)
theorem fo2 : Fo g0 4 0 2 3 := by
 have hm : (0, [.m 1] ++ Sm.m 2 :: [.t 3]) ∈ g0 := by simp
 exact .head hm .t
theorem nu0 {r : List Sm} (h : NuR g0 r) : ∀ x ∈ r, x = .m 1 ∨ x = .m 2 := fun x hx => by
 obtain ⟨B, rfl, hd⟩ := h x hx
 have := (em0.iff B).2 hd
 unfold on at this
 rcases (show B = 0 ∨ B = 1 ∨ B = 2 ∨ 3 ≤ B by omega) with rfl | rfl | rfl | h3
 ·simp at this
 ·exact .inl rfl
 ·exact .inr rfl
 ·rw [List.getElem?_eq_none (by simpa using h3)] at this; cases this
def inF (A t : Nat) : Prop := (A = 0 ∧ t = 5) ∨ (A = 1 ∧ (t = 0 ∨ t = 1 ∨ t = 3)) ∨ (A = 2 ∧ t = 3)
theorem fi_no0 {t : Nat} {r : List Sm} (h : FiR g0 4 r t) : r ≠ [] := by cases h <;> simp
theorem fi1 {t : Nat} {r : List Sm} (h : FiR g0 4 r t) (hr : r = [.m 1]) : t = 0 := by
 induction h with
 | t => cases hr
 | e => cases hr
 | m hm hf ih =>
  cases hr
  rcases g0_mem hm with ⟨h, _⟩ | ⟨h, _⟩ | ⟨_, rfl⟩ | ⟨_, rfl⟩ | ⟨h, _⟩ | ⟨h, _⟩
  ·cases h
  ·cases h
  ·cases hf; rfl
  ·cases hf
  ·cases h
  ·cases h
 | skip _ hf _ => cases hr; cases hf
theorem fi2 {t : Nat} {q : List Sm} (hm : (2, q) ∈ g0) (h : FiR g0 4 q t) : t = 0 ∨ t = 1 := by
 rcases g0_mem hm with ⟨h', _⟩ | ⟨h', _⟩ | ⟨h', _⟩ | ⟨h', _⟩ | ⟨_, rfl⟩ | ⟨_, rfl⟩
 ·cases h'
 ·cases h'
 ·cases h'
 ·cases h'
 ·cases h; exact .inr rfl
 ·exact .inl (fi1 h rfl)
theorem fi23 {t : Nat} (h : FiR g0 4 [.m 2, .t 3] t) : t = 0 ∨ t = 1 ∨ t = 3 := by
 cases h with
 | m hm hf => rcases fi2 hm hf with h | h <;> simp [h]
 | skip _ hf => cases hf; simp
theorem app0 {a b : List Sm} {B : Nat} (h : a ++ .m B :: b = []) : False := by
 have := congrArg List.length h
 simp at this
theorem app1 {a b : List Sm} {B : Nat} {x : Sm} (h : a ++ .m B :: b = [x]) : x = .m B ∧ b = [] := by
 cases a with
 | nil => simp at h; exact ⟨h.1.symm, h.2⟩
 | cons y a => simp at h
theorem app2 {a b : List Sm} {B : Nat} {x y : Sm} (h : a ++ .m B :: b = [x, y]) : (x = .m B ∧ b = [y]) ∨ (y = .m B ∧ b = []) := by
 cases a with
 | nil => simp at h; exact .inl ⟨h.1.symm, h.2⟩
 | cons z a =>
  rw [List.cons_append] at h
  exact .inr (app1 (List.cons.inj h).2)
theorem app3 {a b : List Sm} {B : Nat} {x y z : Sm} (h : a ++ .m B :: b = [x, y, z]) : (x = .m B ∧ b = [y, z]) ∨ (y = .m B ∧ b = [z]) ∨ (z = .m B ∧ b = []) := by
 cases a with
 | nil => simp at h; exact .inl ⟨h.1.symm, h.2⟩
 | cons u a =>
  rw [List.cons_append] at h
  exact .inr (app2 (List.cons.inj h).2)
theorem split0 {A : Nat} {a b : List Sm} {B : Nat} (h : (A, a ++ .m B :: b) ∈ g0) : (A = 0 ∧ B = 1 ∧ b = [.m 2, .t 3]) ∨ (A = 0 ∧ B = 2 ∧ b = [.t 3]) ∨ (A = 1 ∧ B = 1 ∧ b = []) ∨ (A = 2 ∧ B = 1 ∧ b = []) := by
 rcases g0_mem h with ⟨rfl, hq⟩ | ⟨rfl, hq⟩ | ⟨rfl, hq⟩ | ⟨rfl, hq⟩ | ⟨rfl, hq⟩ | ⟨rfl, hq⟩
 ·rcases app3 hq with ⟨h1, h2⟩ | ⟨h1, h2⟩ | ⟨h1, h2⟩
  ·cases h1; exact .inl ⟨rfl, rfl, h2⟩
  ·cases h1; exact .inr (.inl ⟨rfl, rfl, h2⟩)
  ·cases h1
 ·cases (app1 hq).1
 ·rcases app2 hq with ⟨h1, h2⟩ | ⟨h1, h2⟩
  ·cases h1
  ·cases h1; exact .inr (.inr (.inl ⟨rfl, rfl, h2⟩))
 ·exact (app0 hq).elim
 ·cases (app1 hq).1
 ·obtain ⟨h1, h2⟩ := app1 hq
  cases h1; exact .inr (.inr (.inr ⟨rfl, rfl, h2⟩))
theorem leq_nil (v : List Nat) : leq [] v := by
 rintro (h | ⟨h, h2⟩)
 ·simp at h
 ·have : v = [] := List.eq_nil_of_length_eq_zero (by simpa using h)
  subst this
  exact h2
theorem fo_in {A t : Nat} (h : Fo g0 4 0 A t) : inF A t := by
 induction h with
 | start => exact .inl ⟨rfl, rfl⟩
 | head hm hf =>
  rcases split0 hm with ⟨_, rfl, rfl⟩ | ⟨_, rfl, rfl⟩ | ⟨_, rfl, rfl⟩ | ⟨_, rfl, rfl⟩
  ·exact .inr (.inl ⟨rfl, fi23 hf⟩)
  ·cases hf; exact .inr (.inr ⟨rfl, rfl⟩)
  ·exact absurd rfl (fi_no0 hf)
  ·exact absurd rfl (fi_no0 hf)
 | pass hm hn _ ih =>
  rcases split0 hm with ⟨_, rfl, rfl⟩ | ⟨_, rfl, rfl⟩ | ⟨rfl, rfl, rfl⟩ | ⟨rfl, rfl, rfl⟩
  ·have := nu0 hn (.t 3) (by simp); simp at this
  ·have := nu0 hn (.t 3) (by simp); simp at this
  ·exact ih
  ·rcases ih with ⟨h, _⟩ | ⟨h, _⟩ | ⟨_, h⟩
   ·cases h
   ·cases h
   ·exact .inr (.inl ⟨rfl, .inr (.inr h)⟩)
theorem fo_iff {A t : Nat} : Fo g0 4 0 A t ↔ inF A t := ⟨fo_in, fun h => by
 rcases h with ⟨rfl, rfl⟩ | ⟨rfl, h⟩ | ⟨rfl, rfl⟩
 ·exact .start
 ·exact fo1 h
 ·exact fo2⟩
theorem fol0 {ls : List (List Nat)} (h : FolR (sp0 la na pa r0 r1 r2 r4 r5) ls) : ls = [[5], [0, 1, 3], [3]] := by
 obtain ⟨fs, rfl, hl, hok, hO⟩ := h
 have hl3 : fs.length = 3 := hl
 have key : ∀ (A : Nat) (s : Se) (l : List Nat), fs[A]? = some s → Rising l → (∀ t, t ∈ l ↔ inF A t) → tls s = l := fun A s l hs hr hi => by
  refine Rising.ext (tls_rising s) hr fun t => ?_
  rw [mem_tls (hok s (List.mem_of_getElem? hs)), hi t, ← fo_iff]
  have := hO.iff A t
  rw [g0_eq, nl0] at this
  unfold hF at this
  rw [gF_at hs] at this
  exact this
 obtain ⟨a, b, c, rfl⟩ : ∃ a b c, fs = [a, b, c] := by
  match fs, hl3 with
  | [a, b, c], _ => exact ⟨a, b, c, rfl⟩
 simp only [List.map_cons, List.map_nil]
 rw [key 0 a [5] rfl (by simp [Rising]) (fun t => by simp [inF]), key 1 b [0, 1, 3] rfl (by simp [Rising]) (fun t => by simp [inF]), key 2 c [3] rfl (by simp [Rising]) (fun t => by simp [inF])]
/-! ### Yields -/
theorem mt_nil {A : Nat} (h : MN g0 4 A []) : A ≠ 0 := by
 rintro rfl
 obtain ⟨q, hm, hq⟩ := h
 rcases g0_mem hm with ⟨_, rfl⟩ | ⟨_, rfl⟩ | ⟨h, _⟩ | ⟨h, _⟩ | ⟨h, _⟩ | ⟨h, _⟩
 ·have := CR_of_MT hq
  have h2 : ∀ {r u}, MT g0 4 r u → .t 3 ∈ r → u ≠ [] := fun {r u} h hr => by
   induction h with
   | nil => simp at hr
   | t => simp
   | e => simp
   | m _ _ _ _ ih =>
    simp at hr
    have := ih hr
    simp [this]
  exact absurd rfl (h2 hq (by simp))
 ·cases hq
 all_goals omega
theorem yd1 : Yd g0 4 1 [] := ⟨⟨[], by simp, .nil⟩, fun v _ => leq_nil v⟩
theorem yd2 : Yd g0 4 2 [] := ⟨⟨[.m 1], by simp, .m (q := []) (v := []) (u := []) (by simp) .nil .nil⟩, fun v _ => leq_nil v⟩
theorem MT_m {G : Gr} {nl A : Nat} {r : List Sm} {u : List Nat} (h : MT G nl (.m A :: r) u) : ∃ q v w, (A, q) ∈ G ∧ MT G nl q v ∧ MT G nl r w ∧ u = v ++ w := by
 cases h with
 | m h1 h2 h3 => exact ⟨_, _, _, h1, h2, h3, rfl⟩
theorem MT_t {G : Gr} {nl n : Nat} {r : List Sm} {u : List Nat} (h : MT G nl (.t n :: r) u) : ∃ w, MT G nl r w ∧ u = n :: w := by
 cases h with
 | t h1 => exact ⟨_, h1, rfl⟩
theorem MT_e {G : Gr} {nl : Nat} {r : List Sm} {u : List Nat} (h : MT G nl (.e :: r) u) : ∃ w, MT G nl r w ∧ u = nl :: w := by
 cases h with
 | e h1 => exact ⟨_, h1, rfl⟩
theorem MT_nil {G : Gr} {nl : Nat} {u : List Nat} (h : MT G nl [] u) : u = [] := by
 cases h; rfl
theorem mn0_one {x : Nat} (h : MN g0 4 0 [x]) : 3 ≤ x := by
 obtain ⟨q, hm, hq⟩ := h
 rcases g0_mem hm with ⟨_, rfl⟩ | ⟨_, rfl⟩ | ⟨h, _⟩ | ⟨h, _⟩ | ⟨h, _⟩ | ⟨h, _⟩
 ·obtain ⟨_, v, u1, _, _, h1, e1⟩ := MT_m hq
  obtain ⟨_, v2, u2, _, _, h2, e2⟩ := MT_m h1
  obtain ⟨u3, h3, e3⟩ := MT_t h2
  rw [MT_nil h3] at e3
  rw [e3] at e2
  rw [e2] at e1
  have hl := congrArg List.length e1
  simp at hl
  have hv : v = [] := List.eq_nil_of_length_eq_zero (by omega)
  have hw : v2 = [] := List.eq_nil_of_length_eq_zero (by omega)
  rw [hv, hw] at e1
  simp at e1
  omega
 ·obtain ⟨w, h1, e1⟩ := MT_e hq
  simp at e1
  omega
 all_goals omega
theorem yd0 : Yd g0 4 0 [3] := by
 refine ⟨⟨[.m 1, .m 2, .t 3], by simp, .m (q := []) (v := []) (u := [3]) (by simp) .nil (.m (q := [.m 1]) (v := []) (u := [3]) (by simp) (.m (q := []) (v := []) (u := []) (by simp) .nil .nil) (.t .nil))⟩, fun v hv => ?_⟩
 rintro (h | ⟨h, h2⟩)
 ·have : v = [] := List.eq_nil_of_length_eq_zero (by simpa using h)
  subst this
  exact mt_nil hv rfl
 ·match v, h with
  | [x], _ =>
   have := mn0_one hv
   simp [lex] at h2
   omega
theorem yld0 {k at' : Int} {bs : Option Addr} {m cp : Nat} {L : List Rw} {ls : List (List Nat)} (h : YoR (sp0 la na pa r0 r1 r2 r4 r5) k at' bs m cp L ls) : k = 0 ∧ at' = 0 ∧ m = 3 ∧ ls = [[3], [], []] := by
 obtain ⟨vs, hL, h⟩ := h
 have hv : (fY vs 0).1 = 0 := by
  rw [fY_ok]
  intro v hv
  obtain ⟨i, hi⟩ := List.getElem?_of_mem hv
  have hlen := hL.len
  have h3 : i < 3 := by have := (List.getElem?_eq_some_iff.1 hi).1; rw [hlen] at this; exact this
  have hc : ∃ k, k ≤ 4096 ∧ CN g0 0 1 i k := by
   rcases lt3 h3 with rfl | rfl | rfl
   ·obtain ⟨h1, _⟩ := yd0; exact ⟨1, by omega, (CN_MN (nl := 4)).2 ⟨_, h1, rfl⟩⟩
   ·obtain ⟨h1, _⟩ := yd1; exact ⟨0, by omega, (CN_MN (nl := 4)).2 ⟨_, h1, rfl⟩⟩
   ·obtain ⟨h1, _⟩ := yd2; exact ⟨0, by omega, (CN_MN (nl := 4)).2 ⟨_, h1, rfl⟩⟩
  obtain ⟨k, hk, hc⟩ := hc
  have := hL.c.min (A := i) (k := k) (by rw [g0_eq]; exact hc)
  rw [vf_at hi] at this
  omega
 rcases h with h | ⟨h1, h2, _, h3, h4, h5⟩
 ·exact absurd hv h.2.1
 ·refine ⟨h1, h2, h3, ?_⟩
  rw [g0_eq] at h5
  have h4 : ls.length = 3 := h4
  obtain ⟨a, b, c, rfl⟩ : ∃ a b c, ls = [a, b, c] := by
   match ls, h4 with
   | [a, b, c], _ => exact ⟨a, b, c, rfl⟩
  rw [(h5 0 a rfl).same yd0 fun u => Iff.rfl, (h5 1 b rfl).same yd1 fun u => Iff.rfl, (h5 2 c rfl).same yd2 fun u => Iff.rfl]
end
end Go.Proofs.YtkkpghlcmcaoiaaDoor
