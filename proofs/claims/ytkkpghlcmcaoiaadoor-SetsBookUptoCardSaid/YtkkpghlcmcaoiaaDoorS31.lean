import Derived.Test.YtkkpghlcmcaoiaaDoorMk
import Derived.Test.YtkkpghlcmcaoiaaDoorS29
import Derived.Test.YtkkpghlcmcaoiaaDoorVd
namespace Go.Proofs.YtkkpghlcmcaoiaaDoor
open Go.Vc Go.Gm
section
variable {S : Sp}
theorem FolR.has {ls : List (List Nat)} (h : FolR S ls) {A a : Nat} {l : List Nat} (hl : ls[A]? = some l) : a ∈ l ↔ Fo S.g S.nl S.st.toNat A a := by
 obtain ⟨fs, rfl, _, hk, hO⟩ := h
 rw [List.getElem?_map] at hl
 obtain ⟨s, hs, rfl⟩ := Option.map_eq_some_iff.1 hl
 rw [mem_tls (hk s (List.mem_of_getElem? hs)), ← hO.iff A a]
 unfold hF
 rw [gF_at hs]
theorem FirR.rising {ls : List (List Nat)} (h : FirR S ls) : ∀ l ∈ ls, Rising l := fun l hl => by
 obtain ⟨fs, rfl, _⟩ := h
 obtain ⟨s, _, rfl⟩ := List.mem_map.1 hl
 exact tls_rising s
theorem FolR.rising {ls : List (List Nat)} (h : FolR S ls) : ∀ l ∈ ls, Rising l := fun l hl => by
 obtain ⟨fs, rfl, _⟩ := h
 obtain ⟨s, _, rfl⟩ := List.mem_map.1 hl
 exact tls_rising s
theorem FirR.max1 {ls : List (List Nat)} (h : FirR S ls) : ∀ l ∈ ls, l.length ≤ 128 := fun l hl => by
 obtain ⟨fs, rfl, _⟩ := h
 obtain ⟨s, _, rfl⟩ := List.mem_map.1 hl
 exact tls_len s
theorem FolR.max1 {ls : List (List Nat)} (h : FolR S ls) : ∀ l ∈ ls, l.length ≤ 128 := fun l hl => by
 obtain ⟨fs, rfl, _⟩ := h
 obtain ⟨s, _, rfl⟩ := List.mem_map.1 hl
 exact tls_len s
def ints (l : List Nat) : List Int := l.map fun (n : Nat) => (n : Int)
theorem its_ints (l : List Nat) : its (ints l) = ivs l := by simp [its, ints, ivs]
theorem FiR_tm (hI : Ix S) {r : List Sm} {t : Nat} (h : FiR S.g S.nl r t) : (∀ x ∈ r, ∃ y, syOk S y ∧ sm y = x) → isTm S (t : Int) := by
 have hg : ∀ {A q}, (A, q) ∈ S.g → ∀ x ∈ q, ∃ y, syOk S y ∧ sm y = x := fun hm x hx => by
  obtain ⟨p, hp, _, rfl⟩ := g_of hm
  obtain ⟨y, hy, he⟩ := List.mem_map.1 hx
  exact ⟨y, hI.right p hp y hy, he⟩
 induction h with
 | @t n r =>
  intro hr
  obtain ⟨y, hy, he⟩ := hr (.t n) (by simp)
  rcases hy with ⟨h1, h2, h3, h4⟩ | ⟨h1, _⟩ | ⟨h1, _⟩
  ·have he' : y.2.toNat = n := by simp [sm, h1] at he; exact he
   refine .inr (.inr ⟨by omega, by omega, ?_⟩)
   obtain ⟨lr, hlr⟩ : ∃ lr, S.lx[y.2.toNat]? = some lr := ⟨_, List.getElem?_eq_getElem (by omega)⟩
   rw [show ((n : Nat) : Int).toNat = y.2.toNat by omega, hlr]
   simp [h4 lr hlr]
  ·simp [sm, h1] at he
  ·simp [sm, h1] at he
 | e => intro _; exact .inl rfl
 | m hm _ ih => intro _; exact ih (hg hm)
 | skip _ _ ih => intro hr; exact ih fun x hx => hr x (by simp [hx])
theorem Fo_tm (hI : Ix S) {s A t : Nat} (h : Fo S.g S.nl s A t) : isTm S (t : Int) := by
 have hg : ∀ {A a B b}, (A, a ++ Sm.m B :: b) ∈ S.g → ∀ x ∈ b, ∃ y, syOk S y ∧ sm y = x := fun hm x hx => by
  obtain ⟨p, hp, _, he⟩ := g_of hm
  obtain ⟨y, hy, he⟩ := List.mem_map.1 (show x ∈ row p.r by rw [he]; simp [hx])
  exact ⟨y, hI.right p hp y hy, he⟩
 induction h with
 | start => exact .inr (.inl (by unfold Sp.nl; omega))
 | head hm hf => exact FiR_tm hI hf (hg hm)
 | pass _ _ _ ih => exact ih
/-! ### yields -/
theorem mk_MT {R : Nat → List Nat} : ∀ {q : List Sm}, (∀ B, Sm.m B ∈ q → MN S.g S.nl B (R B)) → MT S.g S.nl q (mkR S.nl R q)
 | [], _ => .nil
 | .t n :: r, h => .t (mk_MT fun B hB => h B (by simp [hB]))
 | .e :: r, h => .e (mk_MT fun B hB => h B (by simp [hB]))
 | .m A :: r, h => by
  obtain ⟨q, hm, hq⟩ := h A (by simp)
  exact .m hm hq (mk_MT fun B hB => h B (by simp [hB]))
theorem mk_leq {R : Nat → List Nat} {q : List Sm} {u : List Nat} (h : MT S.g S.nl q u) : (∀ B, Sm.m B ∈ q → ∀ v, MN S.g S.nl B v → leq (R B) v) → leq (mkR S.nl R q) u := by
 induction h with
 | nil => intro _; exact leq_refl _
 | @t n r u _ ih => intro hR; exact leq_app (a := [n]) (b := [n]) (leq_refl _) (ih fun B hB => hR B (by simp [hB]))
 | @e r u _ ih => intro hR; exact leq_app (a := [S.nl]) (b := [S.nl]) (leq_refl _) (ih fun B hB => hR B (by simp [hB]))
 | @m A q r v u hm hq _ _ ih2 => intro hR; exact leq_app (hR A (by simp) v ⟨q, hm, hq⟩) (ih2 fun B hB => hR B (by simp [hB]))
theorem Ix.names (hI : Ix S) {A : Nat} {q : List Sm} (hm : (A, q) ∈ S.g) {B : Nat} (hB : Sm.m B ∈ q) : B < S.ns.length := by
 obtain ⟨p, hp, _, rfl⟩ := g_of hm
 obtain ⟨x, hx, h3, h2⟩ := row_m.1 hB
 have := hI.name hp hx h3
 omega
theorem YldR.at {ls : List (List Nat)} (h : YldR S ls) {B : Nat} (hB : B < S.ns.length) : Yd S.g S.nl B (rF ls B) := by
 have := h.1
 obtain ⟨u, hu⟩ : ∃ u, ls[B]? = some u := ⟨_, List.getElem?_eq_getElem (by omega)⟩
 rw [rF_at hu]
 exact h.2 B u hu
theorem yd_no {ls : List (List Nat)} (hI : Ix S) (h : YldR S ls) {A : Nat} {q : List Sm} (hm : (A, q) ∈ S.g) {u : List Nat} (hu : ls[A]? = some u) : ¬less (mkR S.nl (rF ls) q) u :=
 (h.2 A u hu).2 _ ⟨q, hm, mk_MT fun B hB => (h.at (hI.names hm hB)).1⟩
theorem yd_one {ls : List (List Nat)} (hI : Ix S) (h : YldR S ls) {A : Nat} {u : List Nat} (hu : ls[A]? = some u) : ∃ q, (A, q) ∈ S.g ∧ mkR S.nl (rF ls) q = u := by
 obtain ⟨⟨q, hm, hq⟩, hl⟩ := h.2 A u hu
 exact ⟨q, hm, leq_anti (mk_leq hq fun B hB v hv => (h.at (hI.names hm hB)).2 v hv) (yd_no hI h hm hu)⟩
structure MdI (S : Sp) (yl : List (List Nat)) (i : Nat) (ms : List Bool) : Prop where
 len : ms.length = S.ns.length
 on : ∀ j p, j < i → S.ps[j]? = some p → mkR S.nl (rF yl) (row p.r) = rF yl p.l.toNat → ms[p.l.toNat]? = some true
theorem MdI.start (yl : List (List Nat)) : MdI S yl 0 (List.replicate S.ns.length false) := ⟨by simp, fun j p h => by omega⟩
theorem MdI.step {yl : List (List Nat)} {i : Nat} {ms : List Bool} (h : MdI S yl i ms) {p : Pd} (hp : S.ps[i]? = some p) (hl : p.l.toNat < S.ns.length) {b : Bool} (hb : b = true ∨ (b = false → mkR S.nl (rF yl) (row p.r) ≠ rF yl p.l.toNat)) (hk : ms[p.l.toNat]? = some true → b = true) : MdI S yl (i + 1) (ms.set p.l.toNat b) := by
 have hlen := h.len
 refine ⟨by simp [hlen], fun j q hj hq he => ?_⟩
 have hb' : q.l.toNat = p.l.toNat → b = true := fun hqp => by
  rcases Nat.lt_or_ge j i with h1 | h1
  ·exact hk (hqp ▸ h.on j q h1 hq he)
  ·obtain rfl : j = i := by omega
   rw [hp] at hq; cases hq
   rcases hb with h2 | h2
   ·exact h2
   ·cases b
    ·exact absurd he (h2 rfl)
    ·rfl
 by_cases hqp : q.l.toNat = p.l.toNat
 ·rw [hqp, List.getElem?_set_self (by omega), hb' hqp]
 ·rw [List.getElem?_set_ne (Ne.symm hqp)]
  rcases Nat.lt_or_ge j i with h1 | h1
  ·exact h.on j q h1 hq he
  ·obtain rfl : j = i := by omega
   rw [hp] at hq; cases hq
   exact absurd rfl hqp
theorem MdI.all {yl : List (List Nat)} {ms : List Bool} (hI : Ix S) (hy : YldR S yl) (h : MdI S yl S.ps.length ms) {A : Nat} (hA : A < S.ns.length) : ms[A]? = some true := by
 have := hy.1
 obtain ⟨u, hu⟩ : ∃ u, yl[A]? = some u := ⟨_, List.getElem?_eq_getElem (by omega)⟩
 obtain ⟨q, hm, he⟩ := yd_one hI hy hu
 obtain ⟨j, p, hj, hp, h1, h2⟩ := g_idx hm
 have := h.on j p hj hp (by rw [h2, he, h1, rF_at hu])
 rw [h1] at this
 exact this
end
end Go.Proofs.YtkkpghlcmcaoiaaDoor
namespace Go.Proofs.YtkkpghlcmcaoiaaDoor
open Go.Vc Go.Gm
theorem GOk.r16 {S : Sp} (h : GOk S) {p : Pd} (hp : p ∈ S.ps) : p.r.length ≤ 16 := by
 have := h.lng
 unfold Lng at this
 rcases Nat.lt_or_ge 16 p.r.length with h1 | h1
 ·exact absurd (.inr (.inr (.inr ⟨p, hp, h1⟩))) this
 ·exact h1
end Go.Proofs.YtkkpghlcmcaoiaaDoor
namespace Go.Vc
open Go
section
variable {F : Fence} {P : Program} {ops : Array Oper} {Q : Exit → Act → World → Prop} {a : Act} {w : World} {n : Nat} {ds : List Deferred} {m : Fm}
end
end Go.Vc
namespace Go.Proofs.YtkkpghlcmcaoiaaDoor
open Go.Vc Go.Gm
theorem Lsts.rd {N : Nat} {w : World} {bs : Option Addr} {n cp : Nat} {L : List Rw} {ls : List (List Nat)} (h : Lsts N w bs n cp L ls) {k : Nat} {l : List Nat} (hk : ls[k]? = some l) {u : Value} (hu : (L.map Rw.v)[k]? = some u) : RdV w 1 u l.length (ivs l) := by
 obtain ⟨u', h1, h2⟩ := h.at' hk
 rw [hu] at h1; cases h1; exact h2
structure HdO (S : Sp) (r : List Sy) (ts : List Int) (N : Nat) (w : World) (bs : Option Addr) (n cp : Nat) (l : List Nat) : Prop where
 row : RowN N w bs n cp l
 is : HdsR S r ts l
theorem HdO.ext0 {S : Sp} {r : List Sy} {ts : List Int} {N : Nat} {w w' : World} {bs : Option Addr} {n cp : Nat} {l : List Nat} (h : HdO S r ts N w bs n cp l) (hE : Ext [] w w') : HdO S r ts N w' bs n cp l := ⟨⟨h.row.own.ext hE (by simp), h.row.new⟩, h.is⟩
theorem HdO.updT {S : Sp} {r : List Sy} {ts : List Int} {N : Nat} {w : World} {bs : Option Addr} {n cp : Nat} {l : List Nat} (h : HdO S r ts N w bs n cp l) {b T : Nat} {cs : Array Value} (hB : Blk w b T cs) (hT : 3 ≠ T) (cs' : Array Value) : HdO S r ts N (upd w b T cs') bs n cp l :=
 ⟨⟨h.row.own.ext ((Ext.refl [b] w).updIn (.inl (by simp)) _ _) (fun x hx hm => by simp at hm; exact h.row.own.ne hB hT x hx hm.symm), h.row.new⟩, h.is⟩
theorem HdO.mono {S : Sp} {r : List Sy} {ts : List Int} {N N' : Nat} {w : World} {bs : Option Addr} {n cp : Nat} {l : List Nat} (h : HdO S r ts N w bs n cp l) (hN : N' ≤ N) : HdO S r ts N' w bs n cp l := ⟨h.row.mono hN, h.is⟩
theorem Heads_ok {w0 w : World} {S : Sp} (hG : SpOk w0 S) (hb : Ext [] w0 w) (hT : Tab w0) (hok : GOk S) {rv : Value} {r : List Sy} (hr : RdV w0 2 rv r.length (ycells r)) (hr16 : r.length ≤ 16) (hrk : ∀ x ∈ r, syOk S x) {nv : Value} {nn : Nat} {ts : List Int} (hn : RdV w0 1 nv nn (its ts)) (hnm : nn ≤ 1048576) (htm : ∀ z ∈ ts, isTm S z) :
  Calls Tryd.prog 33 #[.agg S.ca, rv, nv] w fun e w' => ∃ bs n cp l, e = .returned (.tuple #[.slice bs n cp, .agg #[I6 0, I6 0, .string ⟨#[]⟩]]) ∧ HdO S r ts w.heap.size w' bs n cp l ∧ Ext [] w w' := by
 have h0 : hdE S r ts = (0, 0) := by unfold hdE; rw [if_neg (by omega), symsE_ok hrk, if_neg (by simp), termsE_ok htm]
 refine (Heads_any hG hb hT hr (by omega) hn hnm).mono ?_
 rintro e w' ⟨z, hZ, h | ⟨_, h | ⟨_, bs, n, cp, l, h1, h2, h3⟩⟩, hE⟩
 ·exact absurd (hZ.zero.2.2 hok) h.1
 ·exact absurd (by rw [h0]) h.1
 ·exact ⟨bs, n, cp, l, h1, ⟨h2, h3⟩, hE⟩
end Go.Proofs.YtkkpghlcmcaoiaaDoor
