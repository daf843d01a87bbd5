/- Rows that are made full, results of several kinds, loads of cells. It states nothing of any program. -/
import Derived.Test.YtkkpghlcmcaoiaaDoorVb
import Derived.Laws.OwnMore
namespace Go.Vc
open Go

theorem madeCells_const (v : Value) {z : Array Value} {s : Nat} (hz : z = Array.replicate s v) (hs : 0 < s) (n : Nat) : (madeCells z n).toList = List.replicate n v := by
  subst hz
  apply List.ext_getElem?
  intro j
  by_cases hj : j < n
  · have : j % s < s := Nat.mod_lt _ hs
    simp [madeCells, hj, this]
  · simp [madeCells, hj]
/-- a row that is made full of what is nothing -/
theorem make_full {P : Program} {w : World} {T E : TypeId} {size bytes : Nat} {z : Array Value} (v : Value) {l : Nat} (ht : P.underlying T = some (.slice E)) (hinf : infoOf P E = some (size, bytes, z)) (hz : z = Array.replicate size v) (hs : 0 < size) (hb : bytes * l ≤ 281474976710656) (hl : l ≤ 9223372036854775807) :
    ∃ w', (vS (Instr.makeSlice T (.int .i64 (l : Int)) (.int .i64 (l : Int)))).run P w = .ok (.value (.slice (some ⟨w.heap.size, 0, none⟩) l l)) w' ∧ OwnR w' E size w.heap.size l l (List.replicate (l * size) v) ∧ Ext [] w w' ∧ w'.heap.size = w.heap.size + 1 := by
  obtain ⟨i, zv, hi, hz', rfl, rfl, rfl⟩ := infoOf_spec hinf
  have hb' : (i.bytes : Int) * (l : Int) ≤ 281474976710656 := by
    have : ((i.bytes * l : Nat) : Int) ≤ ((281474976710656 : Nat) : Int) := Int.ofNat_le.2 hb
    simpa using this
  have hr := run_make (P := P) w T E i zv ht hi hz' .i64 .i64 (l : Int) (l : Int) (by omega) (Int.le_refl _) hb' (by omega)
  simp only [Int.toNat_natCast] at hr
  refine ⟨_, vS_run hr, ⟨⟨_, Blk.new _ _ _, size_madeCells _ _, ?_⟩, Nat.le_refl _, by simp only [maxLen]; omega, by simp⟩, (Ext.refl _ _).alloc _, by simp⟩
  rw [madeCells_const v hz hs, List.take_replicate, Nat.min_self]

section
variable {P : Program} {w : World} {a : Act} {n : Nat} {m : Fm}
theorem retTA {fn : Func} {R : Ending → World → Prop} {t u b : Nat} {T T' : TypeId} {cs : Array Value} {x : Value} (hS : St n [] m a) (hr : fn.results = #[.tmp u, .cell t T]) (hag : closedB P (isAgg T) = some true) (hs : closedN P (sizeOf T) = some cs.size)
    (hu : fget m u = some x) (ht : fget m t = some (.pointer (some ⟨b, 0, none⟩))) (hb : Blk w b T' cs) (hR : R (.returned (.tuple #[x, .agg cs])) w) : bodyPost P fn R .ret a w := by
  refine ⟨hS.defers, .tuple #[x, .agg cs], ?_, hR⟩
  have hg := hS.getD ht
  have hx := hS.getD hu
  rw [Array.getD_eq_getD_getElem?] at hg hx
  simp [results, hr, hg, hx, asAddr, loadVar_blk hag hs hb]
theorem retATT {fn : Func} {R : Ending → World → Prop} {t u v b : Nat} {T T' : TypeId} {cs : Array Value} {x y : Value} (hS : St n [] m a) (hr : fn.results = #[.cell t T, .tmp u, .tmp v]) (hag : closedB P (isAgg T) = some true) (hs : closedN P (sizeOf T) = some cs.size)
    (ht : fget m t = some (.pointer (some ⟨b, 0, none⟩))) (hu : fget m u = some x) (hv : fget m v = some y) (hb : Blk w b T' cs) (hR : R (.returned (.tuple #[.agg cs, x, y])) w) : bodyPost P fn R .ret a w := by
  refine ⟨hS.defers, .tuple #[.agg cs, x, y], ?_, hR⟩
  have hg := hS.getD ht
  have hx := hS.getD hu
  have hy := hS.getD hv
  rw [Array.getD_eq_getD_getElem?] at hg hx hy
  simp [results, hr, hg, hx, hy, asAddr, loadVar_blk hag hs hb]
end
end Go.Vc
