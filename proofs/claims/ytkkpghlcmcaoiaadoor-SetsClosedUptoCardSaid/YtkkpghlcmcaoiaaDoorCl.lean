/- SetsClosed's plain law: what is told is closed. -/
import Derived.Test.YtkkpghlcmcaoiaaDoorMk
import Derived.Test.YtkkpghlcmcaoiaaDoorS29
namespace Go.Proofs.YtkkpghlcmcaoiaaDoor
open Go.Vc Go.Gm

section
variable {S : Sp}
theorem FolR.has {ls : List (List Nat)} (h : FolR S ls) {A a : Nat} {l : List Nat} (hl : ls[A]? = some l) : a ∈ l ↔ Fo S.g S.nl S.st.toNat A a := by
  obtain ⟨fs, rfl, _, hk, hO⟩ := h
  rw [List.getElem?_map] at hl
  obtain ⟨s, hs, rfl⟩ := Option.map_eq_some_iff.1 hl
  rw [mem_tls (hk s (List.mem_of_getElem? hs)), ← hO.iff A a]
  unfold hF
  rw [gF_at hs]
theorem FirR.lk {ls : List (List Nat)} (h : FirR S ls) (A a : Nat) : a ∈ rF ls A ↔ FiN S.g S.nl A a := by
  obtain ⟨fs, rfl, _, hk, hFF⟩ := h
  rw [← hFF.iff A a]
  unfold hF rF
  rw [List.getElem?_map]
  cases hA : fs[A]? with
  | none => simp [gF, hA, has_none]
  | some s => rw [gF_at hA]; exact mem_tls (hk s (List.mem_of_getElem? hA))
theorem FirR.rising {ls : List (List Nat)} (h : FirR S ls) : ∀ l ∈ ls, Rising l := fun l hl => by
  obtain ⟨fs, rfl, _⟩ := h
  obtain ⟨s, _, rfl⟩ := List.mem_map.1 hl
  exact tls_rising s
theorem FolR.rising {ls : List (List Nat)} (h : FolR S ls) : ∀ l ∈ ls, Rising l := fun l hl => by
  obtain ⟨fs, rfl, _⟩ := h
  obtain ⟨s, _, rfl⟩ := List.mem_map.1 hl
  exact tls_rising s
theorem FirR.max1 {ls : List (List Nat)} (h : FirR S ls) : ∀ l ∈ ls, l.length ≤ 128 := fun l hl => by
  obtain ⟨fs, rfl, _⟩ := h
  obtain ⟨s, _, rfl⟩ := List.mem_map.1 hl
  exact tls_len s
theorem FolR.max1 {ls : List (List Nat)} (h : FolR S ls) : ∀ l ∈ ls, l.length ≤ 128 := fun l hl => by
  obtain ⟨fs, rfl, _⟩ := h
  obtain ⟨s, _, rfl⟩ := List.mem_map.1 hl
  exact tls_len s
/-- with what a row begins, by what is told -/
def hdL (nl : Nat) (fl : List (List Nat)) (es : List Bool) (nx : List Nat) : List Sm → List Nat
  | [] => nx
  | .t n :: _ => [n]
  | .e :: _ => [nl]
  | .m A :: r => rF fl A ++ if gB es A = true then hdL nl fl es nx r else []
theorem FiR_m {G : Gr} {nl A t : Nat} {r : List Sm} : FiR G nl (.m A :: r) t ↔ FiN G nl A t ∨ (Der G false A ∧ FiR G nl r t) := by
  constructor
  · intro h
    cases h with
    | m hm hq => exact .inl ⟨_, hm, hq⟩
    | skip hd hr => exact .inr ⟨hd, hr⟩
  · rintro (⟨q, hm, hq⟩ | ⟨hd, hr⟩)
    · exact .m hm hq
    · exact .skip hd hr
theorem NuR_m {G : Gr} {A : Nat} {r : List Sm} : NuR G (.m A :: r) ↔ Der G false A ∧ NuR G r := by
  constructor
  · intro h
    obtain ⟨B, hB, hd⟩ := h (.m A) (by simp)
    cases hB
    exact ⟨hd, fun x hx => h x (by simp [hx])⟩
  · rintro ⟨hd, hr⟩ x hx
    rcases List.mem_cons.1 hx with rfl | hx
    · exact ⟨A, rfl, hd⟩
    · exact hr x hx
theorem hdL_mem {fl : List (List Nat)} {es : List Bool} {n : Nat} (hF : FirR S fl) (hE : IsD S.g false n es) {nx : List Nat} {x : Nat} : ∀ {r : List Sm}, x ∈ hdL S.nl fl es nx r ↔ FiR S.g S.nl r x ∨ (NuR S.g r ∧ x ∈ nx)
  | [] => ⟨fun h => .inr ⟨fun x hx => (by cases hx), h⟩, fun h => by
    rcases h with h | h
    · cases h
    · exact h.2⟩
  | .t k :: r => by
    constructor
    · intro h; obtain rfl : x = k := by simpa [hdL] using h
      exact .inl .t
    · rintro (h | ⟨h, _⟩)
      · cases h; simp [hdL]
      · obtain ⟨B, hB, _⟩ := h (.t k) (by simp); cases hB
  | .e :: r => by
    constructor
    · intro h; obtain rfl : x = S.nl := by simpa [hdL] using h
      exact .inl .e
    · rintro (h | ⟨h, _⟩)
      · cases h; simp [hdL]
      · obtain ⟨B, hB, _⟩ := h .e (by simp); cases hB
  | .m A :: r => by
    have ih := hdL_mem hF hE (nx := nx) (x := x) (r := r)
    have h1 : gB es A = true ↔ Der S.g false A := by rw [gB_on]; exact hE.iff A
    rw [hdL, List.mem_append, hF.lk, FiR_m, NuR_m]
    by_cases hg : gB es A = true
    · rw [if_pos hg, ih]
      have := h1.1 hg
      constructor
      · rintro (h | h | h)
        · exact .inl (.inl h)
        · exact .inl (.inr ⟨this, h⟩)
        · exact .inr ⟨⟨this, h.1⟩, h.2⟩
      · rintro ((h | h) | h)
        · exact .inl h
        · exact .inr (.inl h.2)
        · exact .inr (.inr ⟨h.1.2, h.2⟩)
    · rw [if_neg hg]
      have hn : ¬Der S.g false A := fun h => hg (h1.2 h)
      constructor
      · rintro (h | h)
        · exact .inl (.inl h)
        · cases h
      · rintro ((h | h) | h)
        · exact .inl h
        · exact absurd h.1 hn
        · exact absurd h.1.1 hn
/-- the heads of a production are in its name's First -/
theorem in_first {fl : List (List Nat)} {es : List Bool} {n : Nat} (hF : FirR S fl) (hE : IsD S.g false n es) {A : Nat} {q : List Sm} {l : List Nat} (hm : (A, q) ∈ S.g) (hl : fl[A]? = some l) : ∀ x ∈ hdL S.nl fl es [] q, x ∈ l := fun x hx => by
  rcases (hdL_mem hF hE).1 hx with h | h
  · exact (hF.has hl).2 ⟨q, hm, h⟩
  · cases h.2
/-- what stands behind a name is in its Follow -/
theorem in_follow {fl wl : List (List Nat)} {es : List Bool} {n : Nat} (hF : FirR S fl) (hE : IsD S.g false n es) (hW : FolR S wl) {A B : Nat} {a b : List Sm} {l l' : List Nat} (hm : (A, a ++ .m B :: b) ∈ S.g) (hl : wl[A]? = some l) (hl' : wl[B]? = some l') : ∀ x ∈ hdL S.nl fl es l b, x ∈ l' := fun x hx => by
  rcases (hdL_mem hF hE).1 hx with h | h
  · exact (hW.has hl').2 (.head hm h)
  · exact (hW.has hl').2 (.pass hm h.1 ((hW.has hl).1 h.2))
/-- the numbers of a list, as they are written -/
def ints (l : List Nat) : List Int := l.map fun (n : Nat) => (n : Int)
theorem its_ints (l : List Nat) : its (ints l) = ivs l := by simp [its, ints, ivs]
theorem mem_ints {l : List Nat} {t : Nat} : (t : Int) ∈ ints l ↔ t ∈ l := by
  unfold ints
  constructor
  · intro h; obtain ⟨x, hx, he⟩ := List.mem_map.1 h; obtain rfl : x = t := by omega
    exact hx
  · intro h; exact List.mem_map.2 ⟨t, h, rfl⟩
theorem hd_eq {fl : List (List Nat)} {es : List Bool} {n : Nat} (hF : FirR S fl) (hE : IsD S.g false n es) {r : List Sy} {nx l : List Nat} (h : HdsR S r (ints nx) l) (x : Nat) : x ∈ l ↔ x ∈ hdL S.nl fl es nx (row r) := by
  rw [h.mem, hdL_mem hF hE, mem_ints]
/-- what begins a row is a terminal -/
theorem FiR_tm (hI : Ix S) {r : List Sm} {t : Nat} (h : FiR S.g S.nl r t) : (∀ x ∈ r, ∃ y, syOk S y ∧ sm y = x) → isTm S (t : Int) := by
  have hg : ∀ {A q}, (A, q) ∈ S.g → ∀ x ∈ q, ∃ y, syOk S y ∧ sm y = x := fun hm x hx => by
    obtain ⟨p, hp, _, rfl⟩ := g_of hm
    obtain ⟨y, hy, he⟩ := List.mem_map.1 hx
    exact ⟨y, hI.right p hp y hy, he⟩
  induction h with
  | @t n r =>
    intro hr
    obtain ⟨y, hy, he⟩ := hr (.t n) (by simp)
    rcases hy with ⟨h1, h2, h3, h4⟩ | ⟨h1, _⟩ | ⟨h1, _⟩
    · have he' : y.2.toNat = n := by simp [sm, h1] at he; exact he
      refine .inr (.inr ⟨by omega, by omega, ?_⟩)
      obtain ⟨lr, hlr⟩ : ∃ lr, S.lx[y.2.toNat]? = some lr := ⟨_, List.getElem?_eq_getElem (by omega)⟩
      rw [show ((n : Nat) : Int).toNat = y.2.toNat by omega, hlr]
      simp [h4 lr hlr]
    · simp [sm, h1] at he
    · simp [sm, h1] at he
  | e => intro _; exact .inl rfl
  | m hm _ ih => intro _; exact ih (hg hm)
  | skip _ _ ih => intro hr; exact ih fun x hx => hr x (by simp [hx])
theorem Fo_tm (hI : Ix S) {s A t : Nat} (h : Fo S.g S.nl s A t) : isTm S (t : Int) := by
  have hg : ∀ {A a B b}, (A, a ++ Sm.m B :: b) ∈ S.g → ∀ x ∈ b, ∃ y, syOk S y ∧ sm y = x := fun hm x hx => by
    obtain ⟨p, hp, _, he⟩ := g_of hm
    obtain ⟨y, hy, he⟩ := List.mem_map.1 (show x ∈ row p.r by rw [he]; simp [hx])
    exact ⟨y, hI.right p hp y hy, he⟩
  induction h with
  | start => exact .inr (.inl (by unfold Sp.nl; omega))
  | head hm hf => exact FiR_tm hI hf (hg hm)
  | pass _ _ _ ih => exact ih
/-! ### yields -/
theorem mk_MT {R : Nat → List Nat} : ∀ {q : List Sm}, (∀ B, Sm.m B ∈ q → MN S.g S.nl B (R B)) → MT S.g S.nl q (mkR S.nl R q)
  | [], _ => .nil
  | .t n :: r, h => .t (mk_MT fun B hB => h B (by simp [hB]))
  | .e :: r, h => .e (mk_MT fun B hB => h B (by simp [hB]))
  | .m A :: r, h => by
    obtain ⟨q, hm, hq⟩ := h A (by simp)
    exact .m hm hq (mk_MT fun B hB => h B (by simp [hB]))
theorem mk_leq {R : Nat → List Nat} {q : List Sm} {u : List Nat} (h : MT S.g S.nl q u) : (∀ B, Sm.m B ∈ q → ∀ v, MN S.g S.nl B v → leq (R B) v) → leq (mkR S.nl R q) u := by
  induction h with
  | nil => intro _; exact leq_refl _
  | @t n r u _ ih => intro hR; exact leq_app (a := [n]) (b := [n]) (leq_refl _) (ih fun B hB => hR B (by simp [hB]))
  | @e r u _ ih => intro hR; exact leq_app (a := [S.nl]) (b := [S.nl]) (leq_refl _) (ih fun B hB => hR B (by simp [hB]))
  | @m A q r v u hm hq _ _ ih2 => intro hR; exact leq_app (hR A (by simp) v ⟨q, hm, hq⟩) (ih2 fun B hB => hR B (by simp [hB]))
theorem Ix.names (hI : Ix S) {A : Nat} {q : List Sm} (hm : (A, q) ∈ S.g) {B : Nat} (hB : Sm.m B ∈ q) : B < S.ns.length := by
  obtain ⟨p, hp, _, rfl⟩ := g_of hm
  obtain ⟨x, hx, h3, h2⟩ := row_m.1 hB
  have := hI.name hp hx h3
  omega
theorem YldR.at {ls : List (List Nat)} (h : YldR S ls) {B : Nat} (hB : B < S.ns.length) : Yd S.g S.nl B (rF ls B) := by
  have := h.1
  obtain ⟨u, hu⟩ : ∃ u, ls[B]? = some u := ⟨_, List.getElem?_eq_getElem (by omega)⟩
  rw [rF_at hu]
  exact h.2 B u hu
/-- what a production makes of yields is no better than its name's yield -/
theorem yd_no {ls : List (List Nat)} (hI : Ix S) (h : YldR S ls) {A : Nat} {q : List Sm} (hm : (A, q) ∈ S.g) {u : List Nat} (hu : ls[A]? = some u) : ¬less (mkR S.nl (rF ls) q) u :=
  (h.2 A u hu).2 _ ⟨q, hm, mk_MT fun B hB => (h.at (hI.names hm hB)).1⟩
/-- and one makes it -/
theorem yd_one {ls : List (List Nat)} (hI : Ix S) (h : YldR S ls) {A : Nat} {u : List Nat} (hu : ls[A]? = some u) : ∃ q, (A, q) ∈ S.g ∧ mkR S.nl (rF ls) q = u := by
  obtain ⟨⟨q, hm, hq⟩, hl⟩ := h.2 A u hu
  exact ⟨q, hm, leq_anti (mk_leq hq fun B hB v hv => (h.at (hI.names hm hB)).2 v hv) (yd_no hI h hm hu)⟩
theorem MT_none {G : Gr} {nl : Nat} : ∀ {r : List Sm}, (∀ x ∈ r, x.isM = true) → (∀ B, Sm.m B ∈ r → MN G nl B []) → MT G nl r []
  | [], _, _ => .nil
  | .t _ :: _, h, _ => by cases h _ (List.mem_cons_self ..)
  | .e :: _, h, _ => by cases h _ (List.mem_cons_self ..)
  | .m B :: r, h, h' => by
    obtain ⟨q, hq, hv⟩ := h' B (by simp)
    exact .m (v := []) (u := []) hq hv (MT_none (fun x hx => h x (by simp [hx])) fun C hC => h' C (by simp [hC]))
theorem Der_MN {G : Gr} {nl A : Nat} (h : Der G false A) : MN G nl A [] := by
  induction h with
  | mk A r hm _ hg ih => exact ⟨r, hm, MT_none (hg.elim (fun h => by cases h) id) ih⟩
theorem yd_nil {G : Gr} {nl A : Nat} {u : List Nat} (h : Yd G nl A u) : u = [] ↔ Der G false A :=
  ⟨fun he => MN_nil (by rw [← he]; exact h.1), fun hd => List.eq_nil_of_length_eq_zero (by have := leq_len (h.2 [] (Der_MN hd)); simpa using this)⟩
/-- which names' yields were made by the productions ahead of i -/
structure MdI (S : Sp) (yl : List (List Nat)) (i : Nat) (ms : List Bool) : Prop where
  len : ms.length = S.ns.length
  on : ∀ j p, j < i → S.ps[j]? = some p → mkR S.nl (rF yl) (row p.r) = rF yl p.l.toNat → ms[p.l.toNat]? = some true
theorem MdI.start (yl : List (List Nat)) : MdI S yl 0 (List.replicate S.ns.length false) := ⟨by simp, fun j p h => by omega⟩
theorem MdI.step {yl : List (List Nat)} {i : Nat} {ms : List Bool} (h : MdI S yl i ms) {p : Pd} (hp : S.ps[i]? = some p) (hl : p.l.toNat < S.ns.length) {b : Bool} (hb : b = true ∨ (b = false → mkR S.nl (rF yl) (row p.r) ≠ rF yl p.l.toNat)) (hk : ms[p.l.toNat]? = some true → b = true) : MdI S yl (i + 1) (ms.set p.l.toNat b) := by
  have hlen := h.len
  refine ⟨by simp [hlen], fun j q hj hq he => ?_⟩
  have hb' : q.l.toNat = p.l.toNat → b = true := fun hqp => by
    rcases Nat.lt_or_ge j i with h1 | h1
    · exact hk (hqp ▸ h.on j q h1 hq he)
    · obtain rfl : j = i := by omega
      rw [hp] at hq; cases hq
      rcases hb with h2 | h2
      · exact h2
      · cases b
        · exact absurd he (h2 rfl)
        · rfl
  by_cases hqp : q.l.toNat = p.l.toNat
  · rw [hqp, List.getElem?_set_self (by omega), hb' hqp]
  · rw [List.getElem?_set_ne (Ne.symm hqp)]
    rcases Nat.lt_or_ge j i with h1 | h1
    · exact h.on j q h1 hq he
    · obtain rfl : j = i := by omega
      rw [hp] at hq; cases hq
      exact absurd rfl hqp
theorem MdI.all {yl : List (List Nat)} {ms : List Bool} (hI : Ix S) (hy : YldR S yl) (h : MdI S yl S.ps.length ms) {A : Nat} (hA : A < S.ns.length) : ms[A]? = some true := by
  have := hy.1
  obtain ⟨u, hu⟩ : ∃ u, yl[A]? = some u := ⟨_, List.getElem?_eq_getElem (by omega)⟩
  obtain ⟨q, hm, he⟩ := yd_one hI hy hu
  obtain ⟨j, p, hj, hp, h1, h2⟩ := g_idx hm
  have := h.on j p hj hp (by rw [h2, he, h1, rF_at hu])
  rw [h1] at this
  exact this
end
end Go.Proofs.YtkkpghlcmcaoiaaDoor
