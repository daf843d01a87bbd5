/- Moves as an argument, opened. -/
import Derived.Test.YtpglmeeledmkoaaT30
import Derived.Test.YtpglmeeledmkoaaTw
namespace Go.Proofs.Ytpglmeeledmkoaa
open Go.Vc Go.Deep Go.ChangeShapes

theorem cells88 : Try.prog.cellsOf 88 = 3 := by kernel_rfl
theorem bytes88 : Try.prog.bytesOf 88 = 24 := by kernel_rfl

section
variable {H : Type} {enc : TypeId × Value → H} {W : World}

set_option maxRecDepth 100000 in
theorem open_move {fuel : Nat} {cs : List Value} {x : DataW H × List MemPlace} (h : DataW.trod enc Try.prog W 0 (fun _ => true) true fuel 88 cs = some x) :
    ∃ m : Int × Int × Int, cs = [.int .i64 m.1, .int .i64 m.2.1, .int .i64 m.2.2] := by
  obtain ⟨xs, n, rfl, hxx, hlen, hxl, hf⟩ := DataW.trod_struct Try.underlying88 h
  subst hxx
  rw [cells88] at hlen
  match xs, hxl, cs, hlen with
  | [x0, x1, x2], _, [c0, c1, c2], _ =>
    have g0 := hf 0 _ rfl
    have g1 := hf 1 _ rfl
    have g2 := hf 2 _ rfl
    simp [cells3] at g0 g1 g2
    obtain ⟨z0, e0, _⟩ := DataW.trod_int Try.underlying3 g0
    obtain ⟨z1, e1, _⟩ := DataW.trod_int Try.underlying3 g1
    obtain ⟨z2, e2, _⟩ := DataW.trod_int Try.underlying3 g2
    simp only [List.cons.injEq, and_true] at e0 e1 e2
    subst e0 e1 e2
    exact ⟨(z0, z1, z2), rfl⟩

set_option maxRecDepth 100000 in
theorem open_moves {a0 : Option Addr} {len0 cap0 : Nat} {d : DataW H} {p : List MemPlace} (h : DataW.Trod enc Try.prog W 0 (fun _ => true) true 80 (.slice a0 len0 cap0) d p) (hw : ∀ k ∈ d.weights Try.prog 80, k ≤ reachBytes) :
    ∃ ms, RdV W 3 (.slice a0 len0 cap0) ms.length (mvc ms) ∧ ms.length ≤ 100000000000000 := by
  obtain ⟨fuel, h⟩ := h
  rcases open_slice Try.underlying80 h with ⟨h1, _⟩ | ⟨a, len, cap, m, n, D, Pl, h1, _, hl, _, hm, hx, hall⟩
  · refine ⟨[], .inl ⟨none, 0, ?_, rfl, rfl⟩, by simp⟩
    simpa [Value.cells] using h1
  · simp only [if_true] at hm
    subst hm
    simp only [Prod.mk.injEq] at hx
    obtain ⟨rfl, rfl⟩ := hx
    have hv : Value.slice a0 len0 cap0 = .slice (some a) len m := by simpa [Value.cells] using h1
    have hb : len ≤ 100000000000000 := by
      have := hw ((((List.range len).map D).length + ((List.range (m - len)).map fun j => D (len + j)).length) * Try.prog.bytesOf 88) (by simp [DataW.weights, Try.underlying80])
      rw [bytes88] at this
      simp only [List.length_map, List.length_range, reachBytes] at this
      omega
    obtain ⟨S, hS⟩ := choose_lt (α := Int × Int × Int) (n := len) (p := fun i s => W.cells? 0 (a.add (i * 3)) 3 = some [.int .i64 s.1, .int .i64 s.2.1, .int .i64 s.2.2]) (fun i hi => by
      obtain ⟨cs, hc, ht⟩ := hall i (by omega)
      rw [cells88] at hc
      obtain ⟨s, rfl⟩ := open_move ht
      exact ⟨s, hc⟩)
    have hlen : ((List.range len).map S).length = len := by simp
    rw [hv]
    refine ⟨(List.range len).map S, ?_, by rw [hlen]; exact hb⟩
    rw [hlen]
    rcases Nat.eq_zero_or_pos len with rfl | hpos
    · exact .inl ⟨some a, m, rfl, rfl, by simp [mvc]⟩
    · obtain ⟨b, off, spot⟩ := a
      have hspot : spot = none := by
        obtain ⟨_, _, h0⟩ := World.cells?_some (hS 0 hpos)
        have h1 := h0 0 (by omega)
        have h2 : W.cell? (((⟨b, off, spot⟩ : Addr).add (0 * 3)).add 0) = some (.int .i64 (S 0).1) := h1
        have := World.cell?_spot h2
        simpa [Addr.add] using this
      subst hspot
      refine .inr ⟨b, off, m, rfl, ?_, hl, fun j u hu => ?_⟩
      · rw [mvc_len, hlen]
      · have hj : j < len * 3 := by
          have := (List.getElem?_eq_some_iff.1 hu).1
          rwa [mvc_len, hlen] at this
        obtain ⟨i, k, hk, rfl⟩ : ∃ i k, k < 3 ∧ j = i * 3 + k := ⟨j / 3, j % 3, by omega, by omega⟩
        have hi : i < len := by omega
        rw [mvc_at ((List.range len).map S) i k (S i) (by simp [hi]) hk] at hu
        obtain ⟨_, _, h0⟩ := World.cells?_some (hS i hi)
        have h1 := h0 k hk
        rw [addr_add, addr_add] at h1
        rw [← Nat.add_assoc, h1]
        exact hu
end
end Go.Proofs.Ytpglmeeledmkoaa
