/- A script as an argument, opened. -/
import Derived.Test.YtpglmeeledmkoaaT26
import Derived.Deep.Slices
import Derived.SizedLaws
import Derived.OpenShut
namespace Go.Proofs.Ytpglmeeledmkoaa
open Go.Vc Go.Deep Go.ChangeShapes

theorem cells3 : Try.prog.cellsOf 3 = 1 := by kernel_rfl
theorem cells4 : Try.prog.cellsOf 4 = 1 := by kernel_rfl
theorem cells38 : Try.prog.cellsOf 38 = 4 := by kernel_rfl
theorem cells41 : Try.prog.cellsOf 41 = 1 := by kernel_rfl
theorem cells68 : Try.prog.cellsOf 68 = 9 := by kernel_rfl
theorem bytes3 : Try.prog.bytesOf 3 = 8 := by kernel_rfl
theorem bytes68 : Try.prog.bytesOf 68 = 88 := by kernel_rfl

section
variable {H : Type} {enc : TypeId × Value → H} {W : World}

theorem weightsAll_mem {P : Program} {e : TypeId} {k : Nat} : ∀ {l : List (DataW H)} {d : DataW H}, d ∈ l → k ∈ d.weights P e → k ∈ DataW.weightsAll P e l
  | [], d, h, _ => by cases h
  | x :: l, d, h, hk => by
    simp only [DataW.weightsAll, List.mem_append]
    rcases List.mem_cons.1 h with rfl | h
    · exact .inl hk
    · exact .inr (weightsAll_mem h hk)
theorem open_ints {fuel : Nat} {cs : List Value} {x : DataW H × List MemPlace} (h : DataW.trod enc Try.prog W 0 (fun _ => true) true fuel 41 cs = some x) (hw : ∀ k ∈ x.1.weights Try.prog 41, k ≤ reachBytes) :
    ∃ v n zs, cs = [v] ∧ RdV W 1 v n (ints zs) ∧ n ≤ 17592186044000 := by
  rcases open_slice1 Try.underlying41 cells3 h with ⟨rfl, _⟩ | ⟨a, len, cap, m, n, V, D, Pl, rfl, _, hl, _, hm, rfl, hx⟩
  · exact ⟨_, 0, [], rfl, .inl ⟨none, 0, rfl, rfl, rfl⟩, by omega⟩
  · simp only [if_true] at hm
    subst hm
    have hb : len ≤ 17592186044000 := by
      have := hw ((((List.range len).map D).length + ((List.range (m - len)).map fun j => D (len + j)).length) * Try.prog.bytesOf 3) (by simp [DataW.weights, Try.underlying41])
      rw [bytes3] at this
      simp only [List.length_map, List.length_range, reachBytes] at this
      omega
    refine ⟨.slice (some a) len m, len, ?_⟩
    rcases Nat.eq_zero_or_pos len with rfl | hpos
    · exact ⟨[], rfl, .inl ⟨some a, m, rfl, rfl, rfl⟩, by omega⟩
    · obtain ⟨f, hf⟩ := choose_lt (α := Int) (n := len) (p := fun i z => V i = .int .i64 z) (fun i hi => by
        obtain ⟨z, hz, _⟩ := DataW.trod_int Try.underlying3 (hx i (by omega)).2
        exact ⟨z, by simpa using hz⟩)
      obtain ⟨b, off, spot⟩ := a
      have hspot : spot = none := by simpa [Addr.add] using World.cell?_spot (hx 0 (by omega)).1
      subst hspot
      refine ⟨(List.range len).map f, rfl, .inr ⟨b, off, m, rfl, by simp [ints], hl, fun j u hu => ?_⟩, hb⟩
      have hj : j < len := by
        have := (List.getElem?_eq_some_iff.1 hu).1
        simpa [ints] using this
      have h1 := (hx j (by omega)).1
      rw [addr_add, hf j hj] at h1
      rw [h1]
      simpa [ints, hj] using hu

instance : Inhabited Sx := ⟨⟨0, false, 0, 0, 0, 0, 0, 0, .slice none 0 0, 0, []⟩⟩

set_option maxRecDepth 100000 in
theorem open_step {fuel : Nat} {cs : List Value} {x : DataW H × List MemPlace} (h : DataW.trod enc Try.prog W 0 (fun _ => true) true fuel 68 cs = some x) (hw : ∀ k ∈ x.1.weights Try.prog 68, k ≤ reachBytes) :
    ∃ s : Sx, cs = s.cells ∧ SxOk W s := by
  obtain ⟨xs, n, rfl, hxx, hlen, hxl, hf⟩ := DataW.trod_struct Try.underlying68 h
  subst hxx
  rw [cells68] at hlen
  match xs, hxl, cs, hlen with
  | [x0, x1, x2, x3, x4, x5], _, [c0, c1, c2, c3, c4, c5, c6, c7, c8], _ =>
    have g0 := hf 0 _ rfl
    have g1 := hf 1 _ rfl
    have g2 := hf 2 _ rfl
    have g3 := hf 3 _ rfl
    have g4 := hf 4 _ rfl
    have g5 := hf 5 _ rfl
    simp [cells3, cells4, cells38, cells41] at g0 g1 g2 g3 g4 g5
    obtain ⟨z0, e0, _⟩ := DataW.trod_int Try.underlying3 g0
    obtain ⟨b1, e1, _⟩ := DataW.trod_bool Try.underlying4 g1
    obtain ⟨z3, e3, _⟩ := DataW.trod_int Try.underlying3 g3
    obtain ⟨z4, e4, _, w4⟩ := DataW.trod_int Try.underlying3 g4
    obtain ⟨ys, m, rfl, hyy, _, hyl, hg⟩ := DataW.trod_struct Try.underlying38 g2
    have hw5 : ∀ k ∈ x5.1.weights Try.prog 41, k ≤ reachBytes := fun k hk => hw k (by
      simp only [DataW.weights, Try.underlying68]
      exact DataW.weights_mem_each (j := 5) rfl rfl k hk)
    obtain ⟨v, n5, zs, e5, h5, hn5⟩ := open_ints g5 hw5
    match ys, hyl with
    | [y0, y1, y2, y3], _ =>
      have k0 := hg 0 _ rfl
      have k1 := hg 1 _ rfl
      have k2 := hg 2 _ rfl
      have k3 := hg 3 _ rfl
      simp [cells3] at k0 k1 k2 k3
      obtain ⟨a0, f0, _⟩ := DataW.trod_int Try.underlying3 k0
      obtain ⟨a1, f1, _⟩ := DataW.trod_int Try.underlying3 k1
      obtain ⟨a2, f2, _⟩ := DataW.trod_int Try.underlying3 k2
      obtain ⟨a3, f3, _⟩ := DataW.trod_int Try.underlying3 k3
      simp only [List.cons.injEq, and_true] at e0 e1 e3 e4 e5 f0 f1 f2 f3
      subst e0 e1 e3 e4 e5 f0 f1 f2 f3
      exact ⟨⟨z0, b1, a0, a1, a2, a3, z3, z4, _, n5, zs⟩, rfl, h5, hn5, (bounds_i64 w4).2⟩

set_option maxRecDepth 100000 in
theorem open_script {a0 : Option Addr} {len0 cap0 : Nat} {d : DataW H} {p : List MemPlace} (h : DataW.Trod enc Try.prog W 0 (fun _ => true) true 23 (.slice a0 len0 cap0) d p) (hw : ∀ k ∈ d.weights Try.prog 23, k ≤ reachBytes) :
    ∃ l, Scr W (.slice a0 len0 cap0) l := by
  obtain ⟨fuel, h⟩ := h
  rcases open_slice Try.underlying23 h with ⟨h1, _⟩ | ⟨a, len, cap, m, n, D, Pl, h1, _, hl, _, hm, hx, hall⟩
  · refine ⟨[], .inl ⟨none, 0, ?_, rfl, rfl⟩, fun s hs => (by cases hs), by simp⟩
    simpa [Value.cells] using h1
  · simp only [if_true] at hm
    subst hm
    simp only [Prod.mk.injEq] at hx
    obtain ⟨rfl, rfl⟩ := hx
    have hv : Value.slice a0 len0 cap0 = .slice (some a) len m := by simpa [Value.cells] using h1
    have hb : len ≤ 4398046510000 := by
      have := hw ((((List.range len).map D).length + ((List.range (m - len)).map fun j => D (len + j)).length) * Try.prog.bytesOf 68) (by simp [DataW.weights, Try.underlying23])
      rw [bytes68] at this
      simp only [List.length_map, List.length_range, reachBytes] at this
      omega
    have hwD : ∀ i, i < len → ∀ k ∈ (D i).weights Try.prog 68, k ≤ reachBytes := fun i hi k hk => hw k (by
      simp only [DataW.weights, Try.underlying23, List.mem_cons, List.mem_append]
      right; left
      exact weightsAll_mem (List.mem_map.2 ⟨i, by simpa using hi, rfl⟩) hk)
    obtain ⟨S, hS⟩ := choose_lt (α := Sx) (n := len) (p := fun i s => W.cells? 0 (a.add (i * 9)) 9 = some s.cells ∧ SxOk W s) (fun i hi => by
      obtain ⟨cs, hc, ht⟩ := hall i (by omega)
      rw [cells68] at hc
      obtain ⟨s, rfl, hs⟩ := open_step ht (hwD i hi)
      exact ⟨s, hc, hs⟩)
    have hlen : ((List.range len).map S).length = len := by simp
    rw [hv]
    refine ⟨(List.range len).map S, ?_, ?_, by rw [hlen]; exact hb⟩
    · rw [hlen]
      rcases Nat.eq_zero_or_pos len with rfl | hpos
      · exact .inl ⟨some a, m, rfl, rfl, by simp [scells]⟩
      · obtain ⟨b, off, spot⟩ := a
        have hspot : spot = none := by
          obtain ⟨_, _, h0⟩ := World.cells?_some (hS 0 hpos).1
          have h1 := h0 0 (by omega)
          have h2 : W.cell? (((⟨b, off, spot⟩ : Addr).add (0 * 9)).add 0) = some (.int .i64 (S 0).sx) := h1
          have := World.cell?_spot h2
          simpa [Addr.add] using this
        subst hspot
        refine .inr ⟨b, off, m, rfl, ?_, hl, fun j u hu => ?_⟩
        · have : ∀ l : List Sx, (scells l).length = l.length * 9 := by
            intro l
            induction l with
            | nil => rfl
            | cons s l ih => simp [scells, ih, Sx.cells]; omega
          rw [this, hlen]
        · have hj : j < len * 9 := by
            have := (List.getElem?_eq_some_iff.1 hu).1
            have hs : ∀ l : List Sx, (scells l).length = l.length * 9 := by
              intro l
              induction l with
              | nil => rfl
              | cons s l ih => simp [scells, ih, Sx.cells]; omega
            rw [hs, hlen] at this
            exact this
          obtain ⟨i, k, hk, rfl⟩ : ∃ i k, k < 9 ∧ j = i * 9 + k := ⟨j / 9, j % 9, by omega, by omega⟩
          have hi : i < len := by omega
          rw [scells_at ((List.range len).map S) i k (S i) (by simp [hi]) hk] at hu
          obtain ⟨_, _, h0⟩ := World.cells?_some (hS i hi).1
          have h1 := h0 k hk
          rw [addr_add, addr_add] at h1
          rw [← Nat.add_assoc, h1]
          exact hu
    · intro s hs
      obtain ⟨i, hi, rfl⟩ := List.mem_map.1 hs
      exact (hS i (by simpa using hi)).2
end
end Go.Proofs.Ytpglmeeledmkoaa
