import Derived.Test.YtkkpghlcmcaoiaaDoorS21
import Derived.Test.YtkkpghlcmcaoiaaDoorRows
import Derived.Deep.Slices
import Derived.SizedLaws
import Derived.OpenShut
import Derived.Lib.LaidU8
import Derived.MakeChecks
import Derived.LaidLaws
import Derived.Lib.SmallJoins
namespace Go.Proofs.YtkkpghlcmcaoiaaDoor
open Go.Vc Go.Gm
def Sp.with (S : Sp) (pa : Option Addr) (pc : Nat) (ps : List Pd) : Sp := { S with pa := pa, pc := pc, ps := ps }
section
variable {S : Sp} {pa : Option Addr} {pc : Nat} {qs : List Pd}
theorem with_g (h1 : ∀ q ∈ qs, q ∈ S.ps) (h2 : ∀ p ∈ S.ps, p ∈ qs) : ∀ x, x ∈ S.g ↔ x ∈ (S.with pa pc qs).g := fun x => by
 unfold Sp.g Sp.with
 simp only [List.mem_map]
 exact ⟨fun ⟨p, hp, he⟩ => ⟨p, h2 p hp, he⟩, fun ⟨p, hp, he⟩ => ⟨p, h1 p hp, he⟩⟩
theorem GOk.with (h : GOk S) (h1 : ∀ q ∈ qs, q ∈ S.ps) (h2 : ∀ p ∈ S.ps, p ∈ qs) (hl : qs.length ≤ 512) : GOk (S.with pa pc qs) := by
 have hg := with_g (pa := pa) (pc := pc) h1 h2
 have hlg := h.lng
 refine ⟨?_, ⟨h.ix.st, fun p hp => h.ix.left p (h1 p hp), fun p hp => h.ix.right p (h1 p hp)⟩, fun A hA => (Rch.eqv hg).1 (h.nm A hA), fun t r ht hr => (Rch.eqv hg).1 (h.ru t r ht hr), fun A hA => (Der.eqv hg).1 (h.pr A hA), fun A hA hd => ?_⟩
 ·rintro (h3 | h3 | h3 | ⟨p, hp, h3⟩)
  ·exact hlg (.inl h3)
  ·exact hlg (.inr (.inl h3))
  ·have : 512 < qs.length := h3
   omega
  ·exact hlg (.inr (.inr (.inr ⟨p, h1 p hp, h3⟩)))
 ·obtain ⟨k, hk, hc⟩ := h.em A hA ((Der.eqv hg).2 hd)
  exact ⟨k, hk, (CN.eqv hg).1 hc⟩
end
section
variable {S S' : Sp} (hG : ∀ x, x ∈ S.g ↔ x ∈ S'.g) (hn : S.ns.length = S'.ns.length) (hl : S.nl = S'.nl) (hs : S.st = S'.st)
include hG hn hl
theorem FirR.same {a b : List (List Nat)} (h : FirR S a) (h' : FirR S' b) : a = b := by
 obtain ⟨fs, rfl, h1, h2, h3⟩ := h
 obtain ⟨gs, rfl, h4, h5, h6⟩ := h'
 have key : ∀ A t, hF fs A t ↔ hF gs A t := fun A t => by
  rw [h3.iff A t, h6.iff A t, ← hl]
  exact FiN.eqv hG
 refine List.ext_getElem? fun i => ?_
 rw [List.getElem?_map, List.getElem?_map]
 rcases Nat.lt_or_ge i fs.length with hi | hi
 ·obtain ⟨s, hs1⟩ : ∃ s, fs[i]? = some s := ⟨_, List.getElem?_eq_getElem hi⟩
  obtain ⟨t, ht1⟩ : ∃ t, gs[i]? = some t := ⟨_, List.getElem?_eq_getElem (by omega)⟩
  rw [hs1, ht1]
  simp only [Option.map_some, Option.some.injEq]
  refine Rising.ext (tls_rising _) (tls_rising _) fun x => ?_
  rw [mem_tls (h2 s (List.mem_of_getElem? hs1)), mem_tls (h5 t (List.mem_of_getElem? ht1))]
  have := key i x
  unfold hF at this
  rw [gF_at hs1, gF_at ht1] at this
  exact this
 ·rw [List.getElem?_eq_none hi, List.getElem?_eq_none (by omega)]
include hs
theorem FolR.same {a b : List (List Nat)} (h : FolR S a) (h' : FolR S' b) : a = b := by
 obtain ⟨fs, rfl, h1, h2, h3⟩ := h
 obtain ⟨gs, rfl, h4, h5, h6⟩ := h'
 have key : ∀ A t, hF fs A t ↔ hF gs A t := fun A t => by
  rw [h3.iff A t, h6.iff A t, ← hl, ← hs]
  exact Fo.eqv hG
 refine List.ext_getElem? fun i => ?_
 rw [List.getElem?_map, List.getElem?_map]
 rcases Nat.lt_or_ge i fs.length with hi | hi
 ·obtain ⟨s, hs1⟩ : ∃ s, fs[i]? = some s := ⟨_, List.getElem?_eq_getElem hi⟩
  obtain ⟨t, ht1⟩ : ∃ t, gs[i]? = some t := ⟨_, List.getElem?_eq_getElem (by omega)⟩
  rw [hs1, ht1]
  simp only [Option.map_some, Option.some.injEq]
  refine Rising.ext (tls_rising _) (tls_rising _) fun x => ?_
  rw [mem_tls (h2 s (List.mem_of_getElem? hs1)), mem_tls (h5 t (List.mem_of_getElem? ht1))]
  have := key i x
  unfold hF at this
  rw [gF_at hs1, gF_at ht1] at this
  exact this
 ·rw [List.getElem?_eq_none hi, List.getElem?_eq_none (by omega)]
omit hs
omit hl in
theorem LenR.eqv {vs us : List Nat} (h : LenR S vs) (h' : LenR S' us) : vs = us := vf_ext (by rw [h.len, h'.len, hn]) (h.c.same h'.c fun A k => CN.eqv hG)
theorem YldR.same {a b : List (List Nat)} (h : YldR S a) (h' : YldR S' b) : a = b := by
 refine List.ext_getElem? fun i => ?_
 have h1 := h.1
 have h2 := h'.1
 rcases Nat.lt_or_ge i a.length with hi | hi
 ·obtain ⟨s, hs1⟩ : ∃ s, a[i]? = some s := ⟨_, List.getElem?_eq_getElem hi⟩
  obtain ⟨t, ht1⟩ : ∃ t, b[i]? = some t := ⟨_, List.getElem?_eq_getElem (by omega)⟩
  rw [hs1, ht1]
  have e2 := h'.2 i t ht1
  rw [← hl] at e2
  rw [(h.2 i s hs1).same e2 fun u => MN.eqv hG]
 ·rw [List.getElem?_eq_none hi, List.getElem?_eq_none (by omega)]
theorem YoR.same {k k' x x' : Int} {bs bs' : Option Addr} {m m' cp cp' : Nat} {L L' : List Rw} {ls ls' : List (List Nat)} (h : YoR S k x bs m cp L ls) (h' : YoR S' k' x' bs' m' cp' L' ls') : k = k' ∧ x = x' ∧ m = m' ∧ ls = ls' := by
 obtain ⟨vs, hv, h⟩ := h
 obtain ⟨us, hu, h'⟩ := h'
 rw [hv.eqv hG hn hu] at h
 rcases h with ⟨h1, h2, h3, _, h4, _, _, h5⟩ | ⟨h1, h2, h3, h4, h5⟩
 ·rcases h' with ⟨g1, g2, g3, _, g4, _, _, g5⟩ | ⟨g1, g2, g3, g4, g5⟩
  ·exact ⟨h1.trans g1.symm, h3.trans g3.symm, h4.trans g4.symm, h5.trans g5.symm⟩ 
  ·exact absurd g3 h2
 ·rcases h' with ⟨g1, g2, _⟩ | ⟨g1, g2, g3, g4, g5⟩
  ·exact absurd h3 g2
  ·exact ⟨h1.trans g1.symm, h2.trans g2.symm, h4.trans (hn.trans g4.symm), h5.same hG hn hl g5⟩
end
theorem TdOk.same {S S' : Sp} {N N' : Nat} {w w' : World} {T T' : Td} (hG : ∀ x, x ∈ S.g ↔ x ∈ S'.g) (hn : S.ns.length = S'.ns.length) (hl : S.nl = S'.nl) (hs : S.st = S'.st) (h : TdOk S N w T) (h' : TdOk S' N' w' T') :
  T.es = T'.es ∧ T.fl = T'.fl ∧ T.wl = T'.wl ∧ T.yl = T'.yl ∧ T.yn = T'.yn ∧ T.full = T'.full := by
 obtain ⟨k, x, h1, h2⟩ := h.isY
 obtain ⟨k', x', g1, g2⟩ := h'.isY
 obtain ⟨e1, _, e3, e4⟩ := h1.same hG hn hl g1
 have hd := h'.isE
 rw [← hn] at hd
 refine ⟨h.isE.same hd fun A => Der.eqv hG, h.isF.same hG hn hl h'.isF, h.isW.same hG hn hl hs h'.isW, e4, e3, ?_⟩
 rw [← e1] at g2
 cases hf : T.full <;> cases hf' : T'.full
 ·rfl
 ·rw [hf] at h2; rw [hf'] at g2; exact absurd (h2.2 (g2.1 rfl)) (by simp)
 ·rw [hf] at h2; rw [hf'] at g2; exact absurd (g2.2 (h2.1 rfl)) (by simp)
 ·rfl
theorem TdOk.ext0 {S : Sp} {N : Nat} {w w' : World} {T : Td} (h : TdOk S N w T) (hE : Ext [] w w') : TdOk S N w' T :=
 ⟨h.re.ext hE (by simp), h.ne, h.isE, h.lf.ext0 hE, h.isF, h.lw.ext0 hE, h.isW, h.ly.ext0 hE, h.isY, h.afw, h.afy, h.awy⟩
theorem TdOk.max {S : Sp} {N : Nat} {w : World} {T : Td} (h : TdOk S N w T) : (∀ l ∈ T.fl, l.length ≤ 1048576) ∧ (∀ l ∈ T.wl, l.length ≤ 1048576) ∧ ∀ l ∈ T.yl, l.length ≤ 1048576 := by
 obtain ⟨k, x, hy, _⟩ := h.isY
 exact ⟨h.isF.max, h.isW.max, hy.max⟩
structure RowP (N : Nat) (w : World) (bs : Option Addr) (m cq : Nat) (qs : List Pd) : Prop where
 own : OwnV w 73 2 (.slice bs m cq) m (pcells qs)
 new : ∀ x ∈ ob (.slice bs m cq), N ≤ x
theorem pcells_len (qs : List Pd) : (pcells qs).length = qs.length * 2 := flat_len (k := 2) (fun _ => rfl) qs
theorem RowP.len {N : Nat} {w : World} {bs : Option Addr} {m cq : Nat} {qs : List Pd} (h : RowP N w bs m cq qs) : qs.length = m := by
 have := h.own.len
 rw [pcells_len] at this; omega
theorem pcells_snoc (qs : List Pd) (p : Pd) : pcells (qs ++ [p]) = pcells qs ++ [I6 p.l, p.rv] := by simp [pcells, Pd.cells]
theorem RowP.grow {N : Nat} {w w1 : World} {bs : Option Addr} {m cq g ca : Nat} {qs : List Pd} {p : Pd} (h : RowP N w bs m cq qs) (hO : OwnR w1 73 2 g ca (m + 1) (pcells qs ++ [I6 p.l, p.rv])) {M : Nat} (hM : N ≤ M) (hF : Fresh M (ob (.slice bs m cq)) [g]) : RowP N w1 (some ⟨g, 0, none⟩) (m + 1) ca (qs ++ [p]) := by
 refine ⟨by rw [pcells_snoc]; exact hO.v, fun x hx => ?_⟩
 have hx : x = g := by simpa [ob] using hx
 rw [hx]
 rcases hF g (by simp) with h1 | h1
 ·exact h.new _ h1
 ·exact Nat.le_trans hM h1
def its (ts : List Int) : List Value := ts.map I6
theorem its_at {ts : List Int} {j : Nat} {t : Int} (h : ts[j]? = some t) : (its ts)[j * 1]? = some (I6 t) := by rw [Nat.mul_one, its, List.getElem?_map, h]; rfl
end Go.Proofs.YtkkpghlcmcaoiaaDoor
namespace Go.Proofs.YtkkpghlcmcaoiaaDoor
open Go.Vc Go.Gm Go.Deep Go.ChangeShapes Go.Joins Go.Lib
theorem cells3 : Tryd.prog.cellsOf 3 = 1 := by kernel_rfl
theorem cells4 : Tryd.prog.cellsOf 4 = 1 := by kernel_rfl
theorem cells5 : Tryd.prog.cellsOf 5 = 1 := by kernel_rfl
theorem cells9 : Tryd.prog.cellsOf 9 = 1 := by kernel_rfl
theorem cells61 : Tryd.prog.cellsOf 61 = 2 := by kernel_rfl
theorem cells71 : Tryd.prog.cellsOf 71 = 1 := by kernel_rfl
theorem cells73 : Tryd.prog.cellsOf 73 = 2 := by kernel_rfl
theorem cells96 : Tryd.prog.cellsOf 96 = 1 := by kernel_rfl
theorem cells98 : Tryd.prog.cellsOf 98 = 6 := by kernel_rfl
theorem cells100 : Tryd.prog.cellsOf 100 = 8 := by kernel_rfl
theorem cells162 : Tryd.prog.cellsOf 162 = 64 := by kernel_rfl
section
variable {H : Type} {enc : TypeId × Value → H} {W : World}
theorem bulk_pos : ∀ (d : DataW H), 1 ≤ Rows.uptoBulk d := fun d => by
 cases d with
 | lit l => cases l <;> simp [Rows.uptoBulk]
 | _ => simp [Rows.uptoBulk]
theorem bulk_mem : ∀ {l : List (DataW H)} {d : DataW H}, d ∈ l → Rows.uptoBulk d ≤ Rows.uptoBulkAll l
 | [], d, h => by cases h
 | x :: l, d, h => by
  rw [Rows.uptoBulkAll]
  rcases List.mem_cons.1 h with rfl | h
  ·omega
  ·have := bulk_mem h; omega
theorem bulk_len : ∀ (l : List (DataW H)), l.length ≤ Rows.uptoBulkAll l
 | [] => Nat.zero_le _
 | x :: l => by
  have := bulk_len l
  have := bulk_pos x
  rw [Rows.uptoBulkAll, List.length_cons]; omega
abbrev Bk (d : DataW H) : Prop := Rows.uptoBulk d ≤ 1048576
theorem bulk_of {ds : List (DataW H)} {j : Nat} {d : DataW H} (h : Rows.uptoSmall H ds = true) (hj : ds[j]? = some d) : Bk d := by
 have h1 : Rows.uptoBulkAll ds ≤ 1048576 := by simpa [Rows.uptoSmall] using h
 exact Nat.le_trans (bulk_mem (List.mem_of_getElem? hj)) h1
theorem bk_agg {l : List (DataW H)} {d : DataW H} (h : Bk (.agg l)) (hd : d ∈ l) : Bk d := by
 have h1 := h
 simp only [Bk, Rows.uptoBulk] at h1
 have h2 := bulk_mem hd
 simp only [Bk]
 omega
theorem open_rowsB {α : Type} [Inhabited α] {t e k fuel : Nat} {cs : List Value} {x : DataW H × List MemPlace} (cf : α → List Value) (hcl : ∀ a, (cf a).length = k) (ok : α → Prop) (ht : Tryd.prog.underlying t = some (.slice e)) (hc : Tryd.prog.cellsOf e = k) (hk0 : 0 < k)
  (hp : ∀ fuel cs y, Rows.uptoBulk y.1 < Rows.uptoBulk x.1 → DataW.trod enc Tryd.prog W 0 (fun _ => true) true fuel e cs = some y → Bk y.1 → ∃ a, cs = cf a ∧ ok a)
  (h : DataW.trod enc Tryd.prog W 0 (fun _ => true) true fuel t cs = some x) (hk : Bk x.1) : ∃ (a : Option Addr) (c : Nat) (l : List α), cs = [.slice a l.length c] ∧ RdV W k (.slice a l.length c) l.length (l.flatMap cf) ∧ (∀ y ∈ l, ok y) ∧ l.length ≤ 1048576 := by
 rcases open_slice ht h with ⟨rfl, _⟩ | ⟨a, len, cap, m, n, D, Pl, rfl, _, hl, _, hm, rfl, hall⟩
 ·exact ⟨none, 0, [], rfl, .inl ⟨none, 0, rfl, rfl, rfl⟩, fun y hy => (by cases hy), by simp⟩
 ·simp only [if_true] at hm
  subst hm
  simp only [Bk, Rows.uptoBulk] at hk
  have hb : len ≤ 1048576 := by
   have h2 := bulk_len ((List.range len).map D)
   rw [List.length_map, List.length_range] at h2
   omega
  have hkD : ∀ i, i < len → Bk (D i) := fun i hi => by
   have h2 := bulk_mem (H := H) (l := (List.range len).map D) (d := D i) (List.mem_map.2 ⟨i, by simpa using hi, rfl⟩)
   simp only [Bk]
   omega
  obtain ⟨S, hS⟩ := choose_lt (α := α) (n := len) (p := fun i s => W.cells? 0 (a.add (i * k)) k = some (cf s) ∧ ok s) (fun i hi => by
   obtain ⟨cs, hcs, htr⟩ := hall i (by omega)
   rw [hc] at hcs
   obtain ⟨s, rfl, hs⟩ := hp _ _ _ (by
    have h2 := bulk_mem (H := H) (l := (List.range len).map D) (d := D i) (List.mem_map.2 ⟨i, by simpa using hi, rfl⟩)
    simp only [Rows.uptoBulk]
    omega) htr (hkD i hi)
   exact ⟨s, hcs, hs⟩)
  have hlen : ((List.range len).map S).length = len := by simp
  refine ⟨some a, m, (List.range len).map S, by rw [hlen], ?_, fun y hy => ?_, by rw [hlen]; exact hb⟩
  ·rw [hlen]
   rcases Nat.eq_zero_or_pos len with rfl | hpos
   ·exact .inl ⟨some a, m, rfl, rfl, by simp⟩
   ·obtain ⟨b, off, spot⟩ := a
    have hspot : spot = none := by
     obtain ⟨_, _, h0⟩ := World.cells?_some (hS 0 hpos).1
     have h1 := h0 0 hk0
     obtain ⟨u, hu⟩ : ∃ u, (cf (S 0))[0]? = some u := ⟨_, List.getElem?_eq_getElem (by rw [hcl]; exact hk0)⟩
     rw [hu] at h1
     have := World.cell?_spot h1
     simpa [Addr.add] using this
    subst hspot
    refine .inr ⟨b, off, m, rfl, by rw [flat_len hcl, hlen], hl, fun j u hu => ?_⟩
    have hj : j < len * k := by
     have := (List.getElem?_eq_some_iff.1 hu).1
     rw [flat_len hcl, hlen] at this
     exact this
    obtain ⟨i, q, hq, rfl⟩ : ∃ i q, q < k ∧ j = i * k + q := ⟨j / k, j % k, Nat.mod_lt _ hk0, by rw [Nat.mul_comm]; exact (Nat.div_add_mod j k).symm⟩
    have hi : i < len := by
     rcases Nat.lt_or_ge i len with h3 | h3
     ·exact h3
     ·have := Nat.mul_le_mul_right k h3; omega
    rw [flat_at hcl ((List.range len).map S) i q (S i) (by simp [hi]) hq] at hu
    obtain ⟨_, _, h0⟩ := World.cells?_some (hS i hi).1
    have h1 := h0 q hq
    rw [addr_add, addr_add] at h1
    rw [← Nat.add_assoc, h1]
    exact hu
  ·obtain ⟨i, hi, rfl⟩ := List.mem_map.1 hy
   exact (hS i (by simpa using hi)).2
theorem open_rows {α : Type} [Inhabited α] {t e k fuel : Nat} {cs : List Value} {x : DataW H × List MemPlace} (cf : α → List Value) (hcl : ∀ a, (cf a).length = k) (ok : α → Prop) (ht : Tryd.prog.underlying t = some (.slice e)) (hc : Tryd.prog.cellsOf e = k) (hk0 : 0 < k)
  (hp : ∀ fuel cs x, DataW.trod enc Tryd.prog W 0 (fun _ => true) true fuel e cs = some x → Bk x.1 → ∃ a, cs = cf a ∧ ok a)
  (h : DataW.trod enc Tryd.prog W 0 (fun _ => true) true fuel t cs = some x) (hk : Bk x.1) : ∃ (a : Option Addr) (c : Nat) (l : List α), cs = [.slice a l.length c] ∧ RdV W k (.slice a l.length c) l.length (l.flatMap cf) ∧ (∀ y ∈ l, ok y) ∧ l.length ≤ 1048576 :=
 open_rowsB cf hcl ok ht hc hk0 (fun f c y _ h hb => hp f c y h hb) h hk
instance : Inhabited Pd := ⟨⟨0, none, 0, []⟩⟩
instance : Inhabited Lx := ⟨⟨⟨#[]⟩, false, 0, 0, 0, 0, 0, .slice none 0 0⟩⟩
instance : Inhabited ByteArray := ⟨⟨#[]⟩⟩
set_option maxRecDepth 100000 in
theorem open_sym {fuel : Nat} {cs : List Value} {x : DataW H × List MemPlace} (h : DataW.trod enc Tryd.prog W 0 (fun _ => true) true fuel 61 cs = some x) (_ : Bk x.1) : ∃ s : Sy, cs = [I6 s.1, I6 s.2] ∧ True := by
 obtain ⟨xs, n, rfl, hxx, hlen, hxl, hf⟩ := DataW.trod_struct Tryd.underlying61 h
 subst hxx
 rw [cells61] at hlen
 match xs, hxl, cs, hlen with
 | [x0, x1], _, [c0, c1], _ =>
  have g0 := hf 0 _ rfl
  have g1 := hf 1 _ rfl
  simp [cells3] at g0 g1
  obtain ⟨z0, e0, _⟩ := DataW.trod_int Tryd.underlying3 g0
  obtain ⟨z1, e1, _⟩ := DataW.trod_int Tryd.underlying3 g1
  simp only [List.cons.injEq, and_true] at e0 e1
  subst e0 e1
  exact ⟨(z0, z1), rfl, trivial⟩
set_option maxRecDepth 100000 in
theorem open_prod {fuel : Nat} {cs : List Value} {x : DataW H × List MemPlace} (h : DataW.trod enc Tryd.prog W 0 (fun _ => true) true fuel 73 cs = some x) (hk : Bk x.1) : ∃ p : Pd, cs = p.cells ∧ (RdV W 2 p.rv p.r.length (ycells p.r) ∧ p.r.length ≤ 1048576) := by
 obtain ⟨xs, n, rfl, hxx, hlen, hxl, hf⟩ := DataW.trod_struct Tryd.underlying73 h
 subst hxx
 rw [cells73] at hlen
 match xs, hxl, cs, hlen with
 | [x0, x1], _, [c0, c1], _ =>
  have g0 := hf 0 _ rfl
  have g1 := hf 1 _ rfl
  simp [cells3, cells71] at g0 g1
  obtain ⟨z0, e0, _⟩ := DataW.trod_int Tryd.underlying3 g0
  obtain ⟨a, c, l, e1, h1, _, h2⟩ := open_rows (α := Sy) (k := 2) (fun s => [I6 s.1, I6 s.2]) (fun _ => rfl) (fun _ => True) Tryd.underlying71 cells61 (by omega) (fun _ _ _ h hb => open_sym h hb) g1 (bk_agg hk (by simp))
  simp only [List.cons.injEq, and_true] at e0 e1
  subst e0 e1
  exact ⟨⟨z0, a, c, l⟩, rfl, h1, h2⟩
theorem open_name {fuel : Nat} {cs : List Value} {x : DataW H × List MemPlace} (h : DataW.trod enc Tryd.prog W 0 (fun _ => true) true fuel 9 cs = some x) (_ : Bk x.1) : ∃ s : ByteArray, cs = [.string s] ∧ True := by
 obtain ⟨z0, e0, _⟩ := DataW.trod_string Tryd.underlying9 h
 exact ⟨z0, e0, trivial⟩
theorem ncells_flat (l : List ByteArray) : ncells l = l.flatMap fun s => [.string s] := by
 unfold ncells
 induction l with
 | nil => rfl
 | cons x l ih => rw [List.map_cons, ih]; rfl
set_option maxRecDepth 100000 in
theorem its_flat : ∀ l : List Int, its l = l.flatMap fun z => [I6 z]
 | [] => rfl
 | x :: l => by
  have ih := its_flat l
  unfold its at ih ⊢
  rw [List.map_cons, ih]; rfl
end
theorem tab_of {W : World} (h : laidMetH Tryd.prog [("math/bits.deBruijn64tab", Rows.laid_math_bits_deBruijn64tab)] W) : Tab W := by
 rw [MakeChecks.laidMetH_plain _ _ _ (by kernel_rfl)] at h
 obtain ⟨g, t, cs, fuel, p, hg, hty, hvar, hd⟩ := Lib.laidMet.reads h (.head _)
 obtain rfl := Option.some.inj ((show Tryd.prog.globalNamed "math/bits.deBruijn64tab" = some 0 by kernel_rfl).symm.trans hg)
 obtain rfl := Option.some.inj ((show (Tryd.prog.globals[0]?).map (·.type) = some 162 by kernel_rfl).symm.trans hty)
 have hcs := cells_of_tab (zs := Lib.deBruijn64tab.map fun (n : Nat) => (n : Int)) Tryd.underlying162 Tryd.underlying5 cells5 cells162 (by rw [show tabData IntKind.u8 (Lib.deBruijn64tab.map fun (n : Nat) => (n : Int)) = Rows.laid_math_bits_deBruijn64tab from rfl]; exact hd)
 intro j hj
 have := World.var?_cell hg hvar j
 rw [this, ← Array.getElem?_toList, hcs]
 simp [hj]
noncomputable def laidWorld (os : Os) : World :=
 let w0 := World.holding Tryd.prog os ⟨#[], #[], []⟩
 { w0 with heap := w0.heap.modify 0 fun
  | .cells _ t frozen => .cells (Lib.deBruijn64tab.map fun (n : Nat) => Value.int .u8 (n : Int)).toArray t frozen
  | o => o }
theorem laid_met (os : Os) (args : Array Value) : laidMetH Tryd.prog [("math/bits.deBruijn64tab", Rows.laid_math_bits_deBruijn64tab)] ((laidWorld os).forCall (fun _ _ => 0) ⟨#[], args, []⟩).memory := by
 rw [MakeChecks.laidMetH_plain _ _ _ (by kernel_rfl)]
 exact laidMet_of_run' 8 (by kernel_rfl) (by kernel_rfl)
end Go.Proofs.YtkkpghlcmcaoiaaDoor
