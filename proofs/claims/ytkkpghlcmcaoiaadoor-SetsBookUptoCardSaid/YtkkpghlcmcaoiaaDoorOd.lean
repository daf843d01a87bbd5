import Derived.Test.YtkkpghlcmcaoiaaDoorRows
import Derived.Test.YtkkpghlcmcaoiaaDoorMk
import Derived.Deep.Slices
import Derived.SizedLaws
import Derived.OpenShut
import Derived.Lib.LaidU8
import Derived.MakeChecks
import Derived.LaidLaws
import Derived.Lib.SmallJoins
import Derived.Test.YtkkpghlcmcaoiaaDoorLe
namespace Go.Proofs.YtkkpghlcmcaoiaaDoor
open Go.Vc Go.Gm Go.Deep Go.ChangeShapes Go.Joins Go.Lib
theorem cells3 : Tryd.prog.cellsOf 3 = 1 := by kernel_rfl
theorem cells4 : Tryd.prog.cellsOf 4 = 1 := by kernel_rfl
theorem cells5 : Tryd.prog.cellsOf 5 = 1 := by kernel_rfl
theorem cells9 : Tryd.prog.cellsOf 9 = 1 := by kernel_rfl
theorem cells61 : Tryd.prog.cellsOf 61 = 2 := by kernel_rfl
theorem cells71 : Tryd.prog.cellsOf 71 = 1 := by kernel_rfl
theorem cells73 : Tryd.prog.cellsOf 73 = 2 := by kernel_rfl
theorem cells96 : Tryd.prog.cellsOf 96 = 1 := by kernel_rfl
theorem cells98 : Tryd.prog.cellsOf 98 = 6 := by kernel_rfl
theorem cells100 : Tryd.prog.cellsOf 100 = 8 := by kernel_rfl
theorem cells162 : Tryd.prog.cellsOf 162 = 64 := by kernel_rfl
section
variable {H : Type} {enc : TypeId × Value → H} {W : World}
theorem bulk_pos : ∀ (d : DataW H), 1 ≤ Rows.uptoBulk d := fun d => by
 cases d with
 | lit l => cases l <;> simp [Rows.uptoBulk]
 | _ => simp [Rows.uptoBulk]
theorem bulk_mem : ∀ {l : List (DataW H)} {d : DataW H}, d ∈ l → Rows.uptoBulk d ≤ Rows.uptoBulkAll l
 | [], d, h => by cases h
 | x :: l, d, h => by
  rw [Rows.uptoBulkAll]
  rcases List.mem_cons.1 h with rfl | h
  ·omega
  ·have := bulk_mem h; omega
theorem bulk_len : ∀ (l : List (DataW H)), l.length ≤ Rows.uptoBulkAll l
 | [] => Nat.zero_le _
 | x :: l => by
  have := bulk_len l
  have := bulk_pos x
  rw [Rows.uptoBulkAll, List.length_cons]; omega
abbrev Bk (d : DataW H) : Prop := Rows.uptoBulk d ≤ 1048576
theorem bulk_of {ds : List (DataW H)} {j : Nat} {d : DataW H} (h : Rows.uptoSmall H ds = true) (hj : ds[j]? = some d) : Bk d := by
 have h1 : Rows.uptoBulkAll ds ≤ 1048576 := by simpa [Rows.uptoSmall] using h
 exact Nat.le_trans (bulk_mem (List.mem_of_getElem? hj)) h1
theorem bk_agg {l : List (DataW H)} {d : DataW H} (h : Bk (.agg l)) (hd : d ∈ l) : Bk d := by
 have h1 := h
 simp only [Bk, Rows.uptoBulk] at h1
 have h2 := bulk_mem hd
 simp only [Bk]
 omega
theorem open_rowsB {α : Type} [Inhabited α] {t e k fuel : Nat} {cs : List Value} {x : DataW H × List MemPlace} (cf : α → List Value) (hcl : ∀ a, (cf a).length = k) (ok : α → Prop) (ht : Tryd.prog.underlying t = some (.slice e)) (hc : Tryd.prog.cellsOf e = k) (hk0 : 0 < k)
  (hp : ∀ fuel cs y, Rows.uptoBulk y.1 < Rows.uptoBulk x.1 → DataW.trod enc Tryd.prog W 0 (fun _ => true) true fuel e cs = some y → Bk y.1 → ∃ a, cs = cf a ∧ ok a)
  (h : DataW.trod enc Tryd.prog W 0 (fun _ => true) true fuel t cs = some x) (hk : Bk x.1) : ∃ (a : Option Addr) (c : Nat) (l : List α), cs = [.slice a l.length c] ∧ RdV W k (.slice a l.length c) l.length (l.flatMap cf) ∧ (∀ y ∈ l, ok y) ∧ l.length ≤ 1048576 := by
 rcases open_slice ht h with ⟨rfl, _⟩ | ⟨a, len, cap, m, n, D, Pl, rfl, _, hl, _, hm, rfl, hall⟩
 ·exact ⟨none, 0, [], rfl, .inl ⟨none, 0, rfl, rfl, rfl⟩, fun y hy => (by cases hy), by simp⟩
 ·simp only [if_true] at hm
  subst hm
  simp only [Bk, Rows.uptoBulk] at hk
  have hb : len ≤ 1048576 := by
   have h2 := bulk_len ((List.range len).map D)
   rw [List.length_map, List.length_range] at h2
   omega
  have hkD : ∀ i, i < len → Bk (D i) := fun i hi => by
   have h2 := bulk_mem (H := H) (l := (List.range len).map D) (d := D i) (List.mem_map.2 ⟨i, by simpa using hi, rfl⟩)
   simp only [Bk]
   omega
  obtain ⟨S, hS⟩ := choose_lt (α := α) (n := len) (p := fun i s => W.cells? 0 (a.add (i * k)) k = some (cf s) ∧ ok s) (fun i hi => by
   obtain ⟨cs, hcs, htr⟩ := hall i (by omega)
   rw [hc] at hcs
   obtain ⟨s, rfl, hs⟩ := hp _ _ _ (by
    have h2 := bulk_mem (H := H) (l := (List.range len).map D) (d := D i) (List.mem_map.2 ⟨i, by simpa using hi, rfl⟩)
    simp only [Rows.uptoBulk]
    omega) htr (hkD i hi)
   exact ⟨s, hcs, hs⟩)
  have hlen : ((List.range len).map S).length = len := by simp
  refine ⟨some a, m, (List.range len).map S, by rw [hlen], ?_, fun y hy => ?_, by rw [hlen]; exact hb⟩
  ·rw [hlen]
   rcases Nat.eq_zero_or_pos len with rfl | hpos
   ·exact .inl ⟨some a, m, rfl, rfl, by simp⟩
   ·obtain ⟨b, off, spot⟩ := a
    have hspot : spot = none := by
     obtain ⟨_, _, h0⟩ := World.cells?_some (hS 0 hpos).1
     have h1 := h0 0 hk0
     obtain ⟨u, hu⟩ : ∃ u, (cf (S 0))[0]? = some u := ⟨_, List.getElem?_eq_getElem (by rw [hcl]; exact hk0)⟩
     rw [hu] at h1
     have := World.cell?_spot h1
     simpa [Addr.add] using this
    subst hspot
    refine .inr ⟨b, off, m, rfl, by rw [flat_len hcl, hlen], hl, fun j u hu => ?_⟩
    have hj : j < len * k := by
     have := (List.getElem?_eq_some_iff.1 hu).1
     rw [flat_len hcl, hlen] at this
     exact this
    obtain ⟨i, q, hq, rfl⟩ : ∃ i q, q < k ∧ j = i * k + q := ⟨j / k, j % k, Nat.mod_lt _ hk0, by rw [Nat.mul_comm]; exact (Nat.div_add_mod j k).symm⟩
    have hi : i < len := by
     rcases Nat.lt_or_ge i len with h3 | h3
     ·exact h3
     ·have := Nat.mul_le_mul_right k h3; omega
    rw [flat_at hcl ((List.range len).map S) i q (S i) (by simp [hi]) hq] at hu
    obtain ⟨_, _, h0⟩ := World.cells?_some (hS i hi).1
    have h1 := h0 q hq
    rw [addr_add, addr_add] at h1
    rw [← Nat.add_assoc, h1]
    exact hu
  ·obtain ⟨i, hi, rfl⟩ := List.mem_map.1 hy
   exact (hS i (by simpa using hi)).2
theorem open_rows {α : Type} [Inhabited α] {t e k fuel : Nat} {cs : List Value} {x : DataW H × List MemPlace} (cf : α → List Value) (hcl : ∀ a, (cf a).length = k) (ok : α → Prop) (ht : Tryd.prog.underlying t = some (.slice e)) (hc : Tryd.prog.cellsOf e = k) (hk0 : 0 < k)
  (hp : ∀ fuel cs x, DataW.trod enc Tryd.prog W 0 (fun _ => true) true fuel e cs = some x → Bk x.1 → ∃ a, cs = cf a ∧ ok a)
  (h : DataW.trod enc Tryd.prog W 0 (fun _ => true) true fuel t cs = some x) (hk : Bk x.1) : ∃ (a : Option Addr) (c : Nat) (l : List α), cs = [.slice a l.length c] ∧ RdV W k (.slice a l.length c) l.length (l.flatMap cf) ∧ (∀ y ∈ l, ok y) ∧ l.length ≤ 1048576 :=
 open_rowsB cf hcl ok ht hc hk0 (fun f c y _ h hb => hp f c y h hb) h hk
instance : Inhabited Pd := ⟨⟨0, none, 0, []⟩⟩
instance : Inhabited Lx := ⟨⟨⟨#[]⟩, false, 0, 0, 0, 0, 0, .slice none 0 0⟩⟩
instance : Inhabited ByteArray := ⟨⟨#[]⟩⟩
set_option maxRecDepth 100000 in
theorem open_sym {fuel : Nat} {cs : List Value} {x : DataW H × List MemPlace} (h : DataW.trod enc Tryd.prog W 0 (fun _ => true) true fuel 61 cs = some x) (_ : Bk x.1) : ∃ s : Sy, cs = [I6 s.1, I6 s.2] ∧ True := by
 obtain ⟨xs, n, rfl, hxx, hlen, hxl, hf⟩ := DataW.trod_struct Tryd.underlying61 h
 subst hxx
 rw [cells61] at hlen
 match xs, hxl, cs, hlen with
 | [x0, x1], _, [c0, c1], _ =>
  have g0 := hf 0 _ rfl
  have g1 := hf 1 _ rfl
  simp [cells3] at g0 g1
  obtain ⟨z0, e0, _⟩ := DataW.trod_int Tryd.underlying3 g0
  obtain ⟨z1, e1, _⟩ := DataW.trod_int Tryd.underlying3 g1
  simp only [List.cons.injEq, and_true] at e0 e1
  subst e0 e1
  exact ⟨(z0, z1), rfl, trivial⟩
set_option maxRecDepth 100000 in
theorem open_prod {fuel : Nat} {cs : List Value} {x : DataW H × List MemPlace} (h : DataW.trod enc Tryd.prog W 0 (fun _ => true) true fuel 73 cs = some x) (hk : Bk x.1) : ∃ p : Pd, cs = p.cells ∧ (RdV W 2 p.rv p.r.length (ycells p.r) ∧ p.r.length ≤ 1048576) := by
 obtain ⟨xs, n, rfl, hxx, hlen, hxl, hf⟩ := DataW.trod_struct Tryd.underlying73 h
 subst hxx
 rw [cells73] at hlen
 match xs, hxl, cs, hlen with
 | [x0, x1], _, [c0, c1], _ =>
  have g0 := hf 0 _ rfl
  have g1 := hf 1 _ rfl
  simp [cells3, cells71] at g0 g1
  obtain ⟨z0, e0, _⟩ := DataW.trod_int Tryd.underlying3 g0
  obtain ⟨a, c, l, e1, h1, _, h2⟩ := open_rows (α := Sy) (k := 2) (fun s => [I6 s.1, I6 s.2]) (fun _ => rfl) (fun _ => True) Tryd.underlying71 cells61 (by omega) (fun _ _ _ h hb => open_sym h hb) g1 (bk_agg hk (by simp))
  simp only [List.cons.injEq, and_true] at e0 e1
  subst e0 e1
  exact ⟨⟨z0, a, c, l⟩, rfl, h1, h2⟩
theorem open_name {fuel : Nat} {cs : List Value} {x : DataW H × List MemPlace} (h : DataW.trod enc Tryd.prog W 0 (fun _ => true) true fuel 9 cs = some x) (_ : Bk x.1) : ∃ s : ByteArray, cs = [.string s] ∧ True := by
 obtain ⟨z0, e0, _⟩ := DataW.trod_string Tryd.underlying9 h
 exact ⟨z0, e0, trivial⟩
theorem ncells_flat (l : List ByteArray) : ncells l = l.flatMap fun s => [.string s] := by
 unfold ncells
 induction l with
 | nil => rfl
 | cons x l ih => rw [List.map_cons, ih]; rfl
set_option maxRecDepth 100000 in
end
theorem tab_of {W : World} (h : laidMetH Tryd.prog [("math/bits.deBruijn64tab", Rows.laid_math_bits_deBruijn64tab)] W) : Tab W := by
 rw [MakeChecks.laidMetH_plain _ _ _ (by kernel_rfl)] at h
 obtain ⟨g, t, cs, fuel, p, hg, hty, hvar, hd⟩ := Lib.laidMet.reads h (.head _)
 obtain rfl := Option.some.inj ((show Tryd.prog.globalNamed "math/bits.deBruijn64tab" = some 0 by kernel_rfl).symm.trans hg)
 obtain rfl := Option.some.inj ((show (Tryd.prog.globals[0]?).map (·.type) = some 162 by kernel_rfl).symm.trans hty)
 have hcs := cells_of_tab (zs := Lib.deBruijn64tab.map fun (n : Nat) => (n : Int)) Tryd.underlying162 Tryd.underlying5 cells5 cells162 (by rw [show tabData IntKind.u8 (Lib.deBruijn64tab.map fun (n : Nat) => (n : Int)) = Rows.laid_math_bits_deBruijn64tab from rfl]; exact hd)
 intro j hj
 have := World.var?_cell hg hvar j
 rw [this, ← Array.getElem?_toList, hcs]
 simp [hj]
noncomputable def laidWorld (os : Os) : World :=
 let w0 := World.holding Tryd.prog os ⟨#[], #[], []⟩
 { w0 with heap := w0.heap.modify 0 fun
  | .cells _ t frozen => .cells (Lib.deBruijn64tab.map fun (n : Nat) => Value.int .u8 (n : Int)).toArray t frozen
  | o => o }
theorem laid_met (os : Os) (args : Array Value) : laidMetH Tryd.prog [("math/bits.deBruijn64tab", Rows.laid_math_bits_deBruijn64tab)] ((laidWorld os).forCall (fun _ _ => 0) ⟨#[], args, []⟩).memory := by
 rw [MakeChecks.laidMetH_plain _ _ _ (by kernel_rfl)]
 exact laidMet_of_run' 8 (by kernel_rfl) (by kernel_rfl)
end Go.Proofs.YtkkpghlcmcaoiaaDoor
namespace Go.Proofs.YtkkpghlcmcaoiaaDoor
open Go.Vc Go.Gm Go.ChangeShapes Go.WideShapes Go.ChangeAt Go.RowKit Go.Joins
section
variable {H : Type} {enc : TypeId × Value → H} {W : World}
instance : Inhabited Ex := ⟨.mk 0 0 0 0 0 none 0 []⟩
theorem ecells_one : ∀ l : List Ex, oneAll (ecells l) = true
 | [] => rfl
 | _ :: l => ecells_one l
set_option maxRecDepth 100000 in
theorem open_ex : ∀ (N : Nat) {fuel : Nat} {cs : List Value} {x : DataW H × List MemPlace}, Rows.uptoBulk x.1 < N → DataW.trod enc Tryd.prog W 0 (fun _ => true) true fuel 98 cs = some x → Bk x.1 → ∃ e : Ex, cs = e.cells ∧ Ex.Ok W e
 | 0, _, _, _, hN, _, _ => by omega
 | N + 1, fuel, cs, x, hN, h, hk => by
  obtain ⟨ys, n, rfl, hyy, hlen, hyl, hg⟩ := DataW.trod_struct Tryd.underlying98 h
  subst hyy
  rw [cells98] at hlen
  match ys, hyl, cs, hlen with
  | [y0, y1, y2, y3, y4, y5], _, [c0, c1, c2, c3, c4, c5], _ =>
   have k0 := hg 0 _ rfl
   have k1 := hg 1 _ rfl
   have k2 := hg 2 _ rfl
   have k3 := hg 3 _ rfl
   have k4 := hg 4 _ rfl
   have k5 := hg 5 _ rfl
   simp [cells3, cells96] at k0 k1 k2 k3 k4 k5
   obtain ⟨a0, f0, _⟩ := DataW.trod_int Tryd.underlying3 k0
   obtain ⟨a1, f1, _⟩ := DataW.trod_int Tryd.underlying3 k1
   obtain ⟨a2, f2, _⟩ := DataW.trod_int Tryd.underlying3 k2
   obtain ⟨a3, f3, _⟩ := DataW.trod_int Tryd.underlying3 k3
   obtain ⟨a4, f4, _⟩ := DataW.trod_int Tryd.underlying3 k4
   have hb5 : Rows.uptoBulk y5.1 < N := by
    simp only [List.map_cons, List.map_nil, Rows.uptoBulk, Rows.uptoBulkAll] at hN
    omega
   obtain ⟨a, c, l, f5, h1, h2, h3⟩ := open_rowsB (α := Ex) (k := 6) Ex.cells (fun _ => rfl) (Ex.Ok W) Tryd.underlying96 cells98 (by omega) (fun _ _ y hy h hb => open_ex N (by omega) h hb) k5 (bk_agg hk (by simp))
   simp only [List.cons.injEq, and_true] at f0 f1 f2 f3 f4 f5
   subst f0 f1 f2 f3 f4 f5
   exact ⟨.mk a0 a1 a2 a3 a4 a c l, rfl, .mk h1 h3 (ecells_one l) h2⟩
def LxP (W : World) (l : Lx) (x : Ex) : Prop := l.cells = [.string l.nm, .bool l.tr, I6 x.kd, I6 x.fr, I6 x.to, I6 x.mi, I6 x.ma, x.ls] ∧ Ex.Ok W x
set_option maxRecDepth 100000 in
theorem open_lexP {fuel : Nat} {cs : List Value} {x : DataW H × List MemPlace} (h : DataW.trod enc Tryd.prog W 0 (fun _ => true) true fuel 100 cs = some x) (hk : Bk x.1) : ∃ l : Lx, cs = l.cells ∧ ∃ x, LxP W l x := by
 obtain ⟨xs, n, rfl, hxx, hlen, hxl, hf⟩ := DataW.trod_struct Tryd.underlying100 h
 subst hxx
 rw [cells100] at hlen
 match xs, hxl, cs, hlen with
 | [x0, x1, x2], _, [c0, c1, c2, c3, c4, c5, c6, c7], _ =>
  have g0 := hf 0 _ rfl
  have g1 := hf 1 _ rfl
  have g2 := hf 2 _ rfl
  simp [cells9, cells4, cells98] at g0 g1 g2
  obtain ⟨z0, e0, _⟩ := DataW.trod_string Tryd.underlying9 g0
  obtain ⟨z1, e1, _⟩ := DataW.trod_bool Tryd.underlying4 g1
  obtain ⟨e, e2, he⟩ := open_ex _ (Nat.lt_succ_self _) g2 (bk_agg hk (by simp))
  unfold Ex.cells Ex.cellsW at e2
  simp only [List.cons.injEq, and_true] at e0 e1 e2
  obtain ⟨q0, q1, q2, q3, q4, q5⟩ := e2
  subst e0 e1 q0 q1 q2 q3 q4 q5
  exact ⟨⟨z0, z1, e.kd, e.fr, e.to, e.mi, e.ma, e.ls⟩, rfl, e, rfl, he⟩
theorem choose_all {α β : Type} {R : α → β → Prop} : ∀ {l : List α}, (∀ a ∈ l, ∃ b, R a b) → ∃ m : List β, m.length = l.length ∧ ∀ (i : Nat) (a : α) (b : β), l[i]? = some a → m[i]? = some b → R a b
 | [], _ => ⟨[], rfl, fun i a b h => by simp at h⟩
 | a :: l, h => by
  obtain ⟨b, hb⟩ := h a (by simp)
  obtain ⟨m, hm, hr⟩ := choose_all (l := l) (fun x hx => h x (by simp [hx]))
  refine ⟨b :: m, by simp [hm], fun i x y h1 h2 => ?_⟩
  cases i with
  | zero => simp at h1 h2; subst h1; subst h2; exact hb
  | succ i => exact hr i x y (by simpa using h1) (by simpa using h2)
theorem open_spec4 {fuel : Nat} {c0 c1 c2 c3 : Value} {y0 y1 y2 y3 : DataW H × List MemPlace} (t0 : DataW.trod enc Tryd.prog W 0 (fun _ => true) true fuel 22 [c0] = some y0) (t1 : DataW.trod enc Tryd.prog W 0 (fun _ => true) true fuel 23 [c1] = some y1) (t2 : DataW.trod enc Tryd.prog W 0 (fun _ => true) true fuel 3 [c2] = some y2) (t3 : DataW.trod enc Tryd.prog W 0 (fun _ => true) true fuel 24 [c3] = some y3) (b0 : Bk y0.1) (b1 : Bk y1.1) (b3 : Bk y3.1) :
  ∃ S : Sp, c0 = S.lv ∧ c1 = S.nv ∧ c2 = I6 S.st ∧ c3 = S.pv ∧ SpOk W S ∧ ∃ xs, PatOk W S xs := by
 obtain ⟨la, lc, lx, e0, h0, hlx, m0⟩ := open_rows (α := Lx) (k := 8) Lx.cells (fun _ => rfl) (fun l => ∃ x, LxP W l x) Tryd.underlying22 cells100 (by omega) (fun _ _ _ h hb => open_lexP h hb) t0 b0
 obtain ⟨na, nc, ns, e1, h1, _, m1⟩ := open_rows (α := ByteArray) (k := 1) (fun s => [.string s]) (fun _ => rfl) (fun _ => True) Tryd.underlying23 cells9 (by omega) (fun _ _ _ h hb => open_name h hb) t1 b1
 obtain ⟨z, e2, _⟩ := DataW.trod_int Tryd.underlying3 t2
 obtain ⟨pa, pc, ps, e3, h3, hps, m3⟩ := open_rows (α := Pd) (k := 2) Pd.cells (fun _ => rfl) (fun p => RdV W 2 p.rv p.r.length (ycells p.r) ∧ p.r.length ≤ 1048576) Tryd.underlying24 cells73 (by omega) (fun _ _ _ h hb => open_prod h hb) t3 b3
 simp only [List.cons.injEq, and_true] at e0 e1 e2 e3
 subst e0 e1 e2 e3
 obtain ⟨xs, hxl, hxs⟩ := choose_all hlx
 refine ⟨⟨la, lc, lx, na, nc, ns, z, pa, pc, ps⟩, rfl, rfl, rfl, rfl, ⟨h0, ?_, h3, fun p hp => (hps p hp).1, m0, m1, m3, fun p hp => (hps p hp).2⟩, xs, hxl, fun i l x hl hx => (hxs i l x hl hx).1, fun x hx => ?_⟩
 ·rw [ncells_flat]; exact h1
 ·obtain ⟨i, hi⟩ := List.getElem?_of_mem hx
  obtain ⟨l, hl⟩ : ∃ l, lx[i]? = some l := ⟨_, List.getElem?_eq_getElem (by have := (List.getElem?_eq_some_iff.1 hi).1; omega)⟩
  exact (hxs i l x hl hi).2
set_option maxRecDepth 100000 in
theorem open_specP {v : Value} {d : DataW H} {p : List MemPlace} {r : Reach} {b0 : Nat} (hv : Value.okWide Tryd.prog W r b0 26 v) (h : DataW.Trod enc Tryd.prog W 0 (fun _ => true) true 26 v d p) (hk : Bk d) : ∃ S : Sp, v = .agg #[S.lv, S.nv, I6 S.st, S.pv] ∧ (SpOk W S ∧ ∃ xs, PatOk W S xs) := by
 obtain ⟨c0, c1, c2, c3, y0, y1, y2, y3, n, rfl, rfl, rfl, t0, t1, t2, t3⟩ := open_agg4 Tryd.underlying26 (by kernel_rfl) (by kernel_rfl) hv h
 obtain ⟨S, rfl, rfl, rfl, rfl, h1⟩ := open_spec4 t0 t1 t2 t3 (bk_agg hk (by simp)) (bk_agg hk (by simp)) (bk_agg hk (by simp))
 exact ⟨S, rfl, h1⟩
instance : Inhabited Sp := ⟨⟨none, 0, [], none, 0, [], 0, none, 0, []⟩⟩
end
end Go.Proofs.YtkkpghlcmcaoiaaDoor
