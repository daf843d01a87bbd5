/- A script as an argument, opened; a row of a bounded bulk. -/
import Derived.Test.YtkdbfjomjlhfbaaRows
import Derived.Test.YtkdbfjomjlhfbaaR26
import Derived.Test.YtkdbfjomjlhfbaaOp
namespace Go.Proofs.Ytkdbfjomjlhfbaa
open Go.Vc Go.Deep Go.ChangeShapes

local instance : Inhabited Zt := ⟨⟨fun _ => False⟩⟩
theorem cells23 : Try.prog.cellsOf 23 = 1 := by kernel_rfl
theorem cells49 : Try.prog.cellsOf 49 = 5 := by kernel_rfl
section
variable {H : Type} {enc : TypeId × Value → H} {W : World}
theorem bulk_pos : ∀ (d : DataW H), 1 ≤ Rows.uptoBulk d := fun d => by
  cases d with
  | lit l => cases l <;> simp [Rows.uptoBulk]
  | _ => simp [Rows.uptoBulk]
theorem bulk_mem : ∀ {l : List (DataW H)} {d : DataW H}, d ∈ l → Rows.uptoBulk d ≤ Rows.uptoBulkAll l
  | [], d, h => by cases h
  | x :: l, d, h => by
    rw [Rows.uptoBulkAll]
    rcases List.mem_cons.1 h with rfl | h
    · omega
    · have := bulk_mem h; omega
theorem bulk_len : ∀ (l : List (DataW H)), l.length ≤ Rows.uptoBulkAll l
  | [] => Nat.zero_le _
  | x :: l => by
    have := bulk_len l
    have := bulk_pos x
    rw [Rows.uptoBulkAll, List.length_cons]; omega
/-- what it reads is of a bounded bulk -/
abbrev Bk (d : DataW H) : Prop := Rows.uptoBulk d ≤ 1048576
theorem bulk_of {ds : List (DataW H)} {j : Nat} {d : DataW H} (h : Rows.uptoSmall H ds = true) (hj : ds[j]? = some d) : Bk d := by
  have h1 : Rows.uptoBulkAll ds ≤ 1048576 := by simpa [Rows.uptoSmall] using h
  exact Nat.le_trans (bulk_mem (List.mem_of_getElem? hj)) h1

theorem open_byk {fuel : Nat} {cs : List Value} {x : DataW H × List MemPlace} (h : DataW.trod enc Try.prog W 0 (fun _ => true) true fuel 23 cs = some x) (hk : Bk x.1) :
    ∃ v n xs, cs = [v] ∧ RdV W 1 v n (bv xs) ∧ BR xs ∧ n ≤ 1048576 := by
  rcases open_slice1 Try.underlying23 cells5 h with ⟨rfl, _⟩ | ⟨a, len, cap, m, n, V, D, Pl, rfl, _, hl, _, hm, rfl, hx⟩
  · exact ⟨_, 0, [], rfl, .inl ⟨none, 0, rfl, rfl, rfl⟩, BR.nil, by omega⟩
  · simp only [if_true] at hm
    subst hm
    have hb : len ≤ 1048576 := by
      have h1 := hk
      simp only [Bk, Rows.uptoBulk] at h1
      have h2 := bulk_len ((List.range len).map D)
      rw [List.length_map, List.length_range] at h2
      omega
    refine ⟨.slice (some a) len m, len, ?_⟩
    rcases Nat.eq_zero_or_pos len with rfl | hpos
    · exact ⟨[], rfl, .inl ⟨some a, m, rfl, rfl, rfl⟩, BR.nil, by omega⟩
    · obtain ⟨f, hf⟩ := choose_lt (α := Int) (n := len) (p := fun i z => V i = .int .u8 z ∧ (0 ≤ z ∧ z < 256)) (fun i hi => by
        obtain ⟨z, hz, _, hwf⟩ := DataW.trod_int Try.underlying5 (hx i (by omega)).2
        exact ⟨z, by simpa using hz, byte_wf hwf⟩)
      obtain ⟨b, off, spot⟩ := a
      have hspot : spot = none := by simpa [Addr.add] using World.cell?_spot (hx 0 (by omega)).1
      subst hspot
      refine ⟨(List.range len).map f, rfl, .inr ⟨b, off, m, rfl, by simp, hl, fun j u hu => ?_⟩, fun y hy => ?_, hb⟩
      · have hj : j < len := by
          have := (List.getElem?_eq_some_iff.1 hu).1
          simpa using this
        have h1 := (hx j (by omega)).1
        rw [addr_add, (hf j hj).1] at h1
        rw [h1]
        simpa [bv, hj] using hu
      · obtain ⟨i, hi, rfl⟩ := List.mem_map.1 hy
        exact (hf i (by simpa using hi)).2
instance : Inhabited Sx := ⟨⟨0, 0, 0, 0, .slice none 0 0, 0, []⟩⟩
set_option maxRecDepth 100000 in
theorem open_step {fuel : Nat} {cs : List Value} {x : DataW H × List MemPlace} (h : DataW.trod enc Try.prog W 0 (fun _ => true) true fuel 49 cs = some x) (hk : Bk x.1) :
    ∃ s : Sx, cs = s.cells ∧ SxOk W s := by
  obtain ⟨xs, n, rfl, hxx, hlen, hxl, hf⟩ := DataW.trod_struct Try.underlying49 h
  subst hxx
  rw [cells49] at hlen
  match xs, hxl, cs, hlen with
  | [x0, x1, x2, x3, x4], _, [c0, c1, c2, c3, c4], _ =>
    have g0 := hf 0 _ rfl
    have g1 := hf 1 _ rfl
    have g2 := hf 2 _ rfl
    have g3 := hf 3 _ rfl
    have g4 := hf 4 _ rfl
    simp [cells3, cells23] at g0 g1 g2 g3 g4
    obtain ⟨z0, e0, _⟩ := DataW.trod_int Try.underlying3 g0
    obtain ⟨z1, e1, _⟩ := DataW.trod_int Try.underlying3 g1
    obtain ⟨z2, e2, _⟩ := DataW.trod_int Try.underlying3 g2
    obtain ⟨z3, e3, _, w3⟩ := DataW.trod_int Try.underlying3 g3
    have hk4 : Bk x4.1 := by
      have h1 := hk
      simp only [Bk, Rows.uptoBulk] at h1
      have h2 := bulk_mem (H := H) (l := [x0, x1, x2, x3, x4].map (·.1)) (d := x4.1) (by simp)
      simp only [Bk]
      omega
    obtain ⟨v, n5, zs, e4, h4, hB, hn⟩ := open_byk g4 hk4
    simp only [List.cons.injEq, and_true] at e0 e1 e2 e3 e4
    subst e0 e1 e2 e3 e4
    exact ⟨⟨z0, z1, z2, z3, _, n5, zs⟩, rfl, h4, hB, hn, (bounds_i64 w3).2⟩

set_option maxRecDepth 100000 in
theorem open_script {a0 : Option Addr} {len0 cap0 : Nat} {d : DataW H} {p : List MemPlace} (h : DataW.Trod enc Try.prog W 0 (fun _ => true) true 41 (.slice a0 len0 cap0) d p) (hk : Bk d) :
    ∃ l, Scr W (.slice a0 len0 cap0) l := by
  obtain ⟨fuel, h⟩ := h
  rcases open_slice Try.underlying41 h with ⟨h1, _⟩ | ⟨a, len, cap, m, n, D, Pl, h1, _, hl, _, hm, hx, hall⟩
  · refine ⟨[], .inl ⟨none, 0, ?_, rfl, rfl⟩, fun s hs => (by cases hs), by simp⟩
    simpa [Value.cells] using h1
  · simp only [if_true] at hm
    subst hm
    simp only [Prod.mk.injEq] at hx
    obtain ⟨rfl, rfl⟩ := hx
    have hv : Value.slice a0 len0 cap0 = .slice (some a) len m := by simpa [Value.cells] using h1
    simp only [Bk, Rows.uptoBulk] at hk
    have hb : len ≤ 1048576 := by
      have h2 := bulk_len ((List.range len).map D)
      rw [List.length_map, List.length_range] at h2
      omega
    have hkD : ∀ i, i < len → Bk (D i) := fun i hi => by
      have h2 := bulk_mem (H := H) (l := (List.range len).map D) (d := D i) (List.mem_map.2 ⟨i, by simpa using hi, rfl⟩)
      simp only [Bk]
      omega
    obtain ⟨S, hS⟩ := choose_lt (α := Sx) (n := len) (p := fun i s => W.cells? 0 (a.add (i * 5)) 5 = some s.cells ∧ SxOk W s) (fun i hi => by
      obtain ⟨cs, hc, ht⟩ := hall i (by omega)
      rw [cells49] at hc
      obtain ⟨s, rfl, hs⟩ := open_step ht (hkD i hi)
      exact ⟨s, hc, hs⟩)
    have hlen : ((List.range len).map S).length = len := by simp
    rw [hv]
    refine ⟨(List.range len).map S, ?_, ?_, by rw [hlen]; exact hb⟩
    · rw [hlen]
      rcases Nat.eq_zero_or_pos len with rfl | hpos
      · exact .inl ⟨some a, m, rfl, rfl, by simp [scells]⟩
      · obtain ⟨b, off, spot⟩ := a
        have hspot : spot = none := by
          obtain ⟨_, _, h0⟩ := World.cells?_some (hS 0 hpos).1
          have h1 := h0 0 (by omega)
          have h2 : W.cell? (((⟨b, off, spot⟩ : Addr).add (0 * 5)).add 0) = some (.int .i64 (S 0).kd) := h1
          have := World.cell?_spot h2
          simpa [Addr.add] using this
        subst hspot
        refine .inr ⟨b, off, m, rfl, by rw [scells_len, hlen], hl, fun j u hu => ?_⟩
        have hj : j < len * 5 := by
          have := (List.getElem?_eq_some_iff.1 hu).1
          rw [scells_len, hlen] at this
          exact this
        obtain ⟨i, k, hk, rfl⟩ : ∃ i k, k < 5 ∧ j = i * 5 + k := ⟨j / 5, j % 5, by omega, by omega⟩
        have hi : i < len := by omega
        rw [scells_at ((List.range len).map S) i k (S i) (by simp [hi]) hk] at hu
        obtain ⟨_, _, h0⟩ := World.cells?_some (hS i hi).1
        have h1 := h0 k hk
        rw [addr_add, addr_add] at h1
        rw [← Nat.add_assoc, h1]
        exact hu
    · intro s hs
      obtain ⟨i, hi, rfl⟩ := List.mem_map.1 hs
      exact (hS i (by simpa using hi)).2
end
end Go.Proofs.Ytkdbfjomjlhfbaa
