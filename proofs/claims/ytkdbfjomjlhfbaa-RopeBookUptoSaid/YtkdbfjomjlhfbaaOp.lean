/- Bytes and numbers as arguments, opened. -/
import Derived.Test.YtkdbfjomjlhfbaaNd
import Derived.Deep.Slices
import Derived.SizedLaws
import Derived.OpenShut
namespace Go.Proofs.Ytkdbfjomjlhfbaa
open Go.Vc Go.Deep Go.ChangeShapes

theorem cells3 : Try.prog.cellsOf 3 = 1 := by kernel_rfl
theorem cells5 : Try.prog.cellsOf 5 = 1 := by kernel_rfl
theorem bytes3 : Try.prog.bytesOf 3 = 8 := by kernel_rfl
theorem bytes5 : Try.prog.bytesOf 5 = 1 := by kernel_rfl
def iv (xs : List Int) : List Value := xs.map fun x => .int .i64 x
theorem iv_at {xs : List Int} {j : Nat} {x : Int} (h : xs[j]? = some x) : (iv xs)[j]? = some (I6 x) := by simp [iv, h]
theorem byte_wf {x : Int} (h : (Lit.int .u8 x).wf = true) : 0 ≤ x ∧ x < 256 := by
  have h1 : IntKind.u8.min = 0 := rfl
  have h2 : IntKind.u8.max = 255 := rfl
  simp only [Lit.wf, Bool.and_eq_true, decide_eq_true_eq] at h
  omega

section
variable {H : Type} {enc : TypeId × Value → H} {W : World}

theorem open_row1 {t e B : Nat} {fuel : Nat} {cs : List Value} {x : DataW H × List MemPlace} {p : Value → Prop} (ht : Try.prog.underlying t = some (.slice e)) (hc : Try.prog.cellsOf e = 1) (hB : Try.prog.bytesOf e = B) (hB0 : 0 < B)
    (hp : ∀ v n d q, DataW.trod enc Try.prog W 0 (fun _ => true) true n e [v] = some (d, q) → p v)
    (h : DataW.trod enc Try.prog W 0 (fun _ => true) true fuel t cs = some x) (hw : ∀ k ∈ x.1.weights Try.prog t, k ≤ reachBytes) :
    ∃ a n c, cs = [.slice a n c] ∧ n * B ≤ 140737488355328 ∧ ∃ vs, RdV W 1 (.slice a n c) n vs ∧ ∀ v ∈ vs, p v := by
  rcases open_slice1 ht hc h with ⟨rfl, _⟩ | ⟨a, len, cap, m, n, V, D, Pl, rfl, _, hl, _, hm, rfl, hx⟩
  · exact ⟨none, 0, 0, rfl, by omega, [], .inl ⟨none, 0, rfl, rfl, rfl⟩, fun v hv => by cases hv⟩
  · simp only [if_true] at hm
    subst hm
    have hb : len * B ≤ 140737488355328 := by
      have := hw ((((List.range len).map D).length + ((List.range (m - len)).map fun j => D (len + j)).length) * Try.prog.bytesOf e) (by simp [DataW.weights, ht])
      rw [hB] at this
      simp only [List.length_map, List.length_range, reachBytes] at this
      have h2 : len * B ≤ (len + (m - len)) * B := Nat.mul_le_mul_right _ (by omega)
      omega
    refine ⟨some a, len, m, rfl, hb, ?_⟩
    rcases Nat.eq_zero_or_pos len with rfl | hpos
    · exact ⟨[], .inl ⟨some a, m, rfl, rfl, rfl⟩, fun v hv => by cases hv⟩
    · obtain ⟨b, off, spot⟩ := a
      have hspot : spot = none := by simpa [Addr.add] using World.cell?_spot (hx 0 (by omega)).1
      subst hspot
      refine ⟨(List.range len).map V, .inr ⟨b, off, m, rfl, by simp, hl, fun j u hu => ?_⟩, fun v hv => ?_⟩
      · have hj : j < len := by
          have := (List.getElem?_eq_some_iff.1 hu).1
          simpa using this
        have h1 := (hx j (by omega)).1
        rw [addr_add] at h1
        rw [h1]
        simpa [hj] using hu
      · obtain ⟨i, hi, rfl⟩ := List.mem_map.1 hv
        have hi : i < len := by simpa using hi
        exact hp _ _ _ _ (hx i (by omega)).2

theorem all_ints {k : IntKind} {q : Int → Prop} : ∀ {vs : List Value}, (∀ v ∈ vs, ∃ x, v = .int k x ∧ q x) → ∃ xs : List Int, vs = xs.map (fun x => .int k x) ∧ ∀ x ∈ xs, q x
  | [], _ => ⟨[], rfl, fun x hx => by cases hx⟩
  | v :: vs, h => by
    obtain ⟨x, rfl, hx⟩ := h v (by simp)
    obtain ⟨xs, rfl, hxs⟩ := all_ints fun v hv => h v (List.mem_cons_of_mem _ hv)
    exact ⟨x :: xs, rfl, fun y hy => by rcases List.mem_cons.1 hy with rfl | hy; exact hx; exact hxs y hy⟩

theorem open_byts {fuel : Nat} {cs : List Value} {x : DataW H × List MemPlace} (h : DataW.trod enc Try.prog W 0 (fun _ => true) true fuel 23 cs = some x) (hw : ∀ k ∈ x.1.weights Try.prog 23, k ≤ reachBytes) :
    ∃ a n c xs, cs = [.slice a n c] ∧ RdV W 1 (.slice a n c) n (bv xs) ∧ BR xs ∧ n ≤ 140737488355328 := by
  obtain ⟨a, n, c, rfl, hb, vs, hv, hp⟩ := open_row1 (p := fun v => ∃ x, v = .int .u8 x ∧ (0 ≤ x ∧ x < 256)) Try.underlying23 cells5 bytes5 (by decide) (fun v n d q hd => by
    obtain ⟨z, hz, _, hwf⟩ := DataW.trod_int Try.underlying5 hd
    exact ⟨z, by simpa using hz, byte_wf hwf⟩) h hw
  obtain ⟨xs, rfl, hxs⟩ := all_ints hp
  exact ⟨a, n, c, xs, rfl, hv, hxs, by omega⟩
theorem open_nums {fuel : Nat} {cs : List Value} {x : DataW H × List MemPlace} (h : DataW.trod enc Try.prog W 0 (fun _ => true) true fuel 51 cs = some x) (hw : ∀ k ∈ x.1.weights Try.prog 51, k ≤ reachBytes) :
    ∃ a n c xs, cs = [.slice a n c] ∧ RdV W 1 (.slice a n c) n (iv xs) ∧ (∀ x ∈ xs, -9223372036854775808 ≤ x ∧ x ≤ 9223372036854775807) ∧ n ≤ 17592186044416 := by
  obtain ⟨a, n, c, rfl, hb, vs, hv, hp⟩ := open_row1 (p := fun v => ∃ x, v = .int .i64 x ∧ (-9223372036854775808 ≤ x ∧ x ≤ 9223372036854775807)) Try.underlying51 cells3 bytes3 (by decide) (fun v n d q hd => by
    obtain ⟨z, hz, _, hwf⟩ := DataW.trod_int Try.underlying3 hd
    exact ⟨z, by simpa using hz, bounds_i64 hwf⟩) h hw
  obtain ⟨xs, rfl, hxs⟩ := all_ints hp
  exact ⟨a, n, c, xs, rfl, hv, hxs, by omega⟩

theorem open_bytes {a0 : Option Addr} {len0 cap0 : Nat} {d : DataW H} {p : List MemPlace} (h : DataW.Trod enc Try.prog W 0 (fun _ => true) true 23 (.slice a0 len0 cap0) d p) (hw : ∀ k ∈ d.weights Try.prog 23, k ≤ reachBytes) :
    ∃ xs, RdV W 1 (.slice a0 len0 cap0) len0 (bv xs) ∧ BR xs ∧ len0 ≤ 140737488355328 := by
  obtain ⟨fuel, hf⟩ := h
  obtain ⟨a, n, c, xs, hcs, h1, h2, h3⟩ := open_byts hf hw
  simp only [Value.cells] at hcs
  simp at hcs
  obtain ⟨rfl, rfl, rfl⟩ := hcs
  exact ⟨xs, h1, h2, h3⟩
theorem open_ints {a0 : Option Addr} {len0 cap0 : Nat} {d : DataW H} {p : List MemPlace} (h : DataW.Trod enc Try.prog W 0 (fun _ => true) true 51 (.slice a0 len0 cap0) d p) (hw : ∀ k ∈ d.weights Try.prog 51, k ≤ reachBytes) :
    ∃ xs, RdV W 1 (.slice a0 len0 cap0) len0 (iv xs) ∧ (∀ x ∈ xs, -9223372036854775808 ≤ x ∧ x ≤ 9223372036854775807) ∧ len0 ≤ 17592186044416 := by
  obtain ⟨fuel, hf⟩ := h
  obtain ⟨a, n, c, xs, hcs, h1, h2, h3⟩ := open_nums hf hw
  simp only [Value.cells] at hcs
  simp at hcs
  obtain ⟨rfl, rfl, rfl⟩ := hcs
  exact ⟨xs, h1, h2, h3⟩
end
end Go.Proofs.Ytkdbfjomjlhfbaa
