/- Words of 64 bits, arrays of two of them, faults: operations and comparisons, in the calculus of sparse frames. It states nothing of any program. -/
import Derived.Test.YtkkpghlcmcaoiaaDoorVb
import Derived.Laws.Bits64b
import Derived.Laws.Shifts
import Derived.Laws.StructEq
import Derived.ChangeKeysEq
namespace Go.Vc
open Go

section
variable {P : Program} {w : World} {T : TypeId} {p q : Operand}
theorem bin_or64 {a b : Nat} (ha : a < 18446744073709551616) (hb : b < 18446744073709551616) :
    (vS (do eqGuard .or T p q (.int .u64 (a : Int)) (.int .u64 (b : Int)); binOp .or T (.int .u64 (a : Int)) (.int .u64 (b : Int)))).run P w = .ok (.value (.int .u64 ((a ||| b : Nat) : Int))) w := by
  refine vS_run ?_
  rw [← bits_or_u64_nat a b ha hb]
  rfl
theorem bin_and64 {a b : Nat} (ha : a < 18446744073709551616) (hb : b < 18446744073709551616) :
    (vS (do eqGuard .and T p q (.int .u64 (a : Int)) (.int .u64 (b : Int)); binOp .and T (.int .u64 (a : Int)) (.int .u64 (b : Int)))).run P w = .ok (.value (.int .u64 ((a &&& b : Nat) : Int))) w := by
  refine vS_run ?_
  rw [← bits_and_u64_nat a b ha hb]
  rfl
theorem bin_shl64 {t : Nat} (ht : t < 64) :
    (vS (do eqGuard .shl T p q (.int .u64 1) (.int .i64 (t : Int)); binOp .shl T (.int .u64 1) (.int .i64 (t : Int)))).run P w = .ok (.value (.int .u64 ((2 ^ t : Nat) : Int))) w := by
  refine vS_run ?_
  have h := shift_shl_u64 .i64 1 (t : Int) (by omega) (by omega)
  have hp : 2 ^ t < 2 ^ 64 := Nat.pow_lt_pow_right (by omega) ht
  have e : IntKind.u64.wrap (1 * 2 ^ (t : Int).toNat) = ((2 ^ t : Nat) : Int) := by
    rw [IntKind.wrap_u64, Int.toNat_natCast, Int.one_mul]
    have h2 : ((2 : Int) ^ t) = ((2 ^ t : Nat) : Int) := by simp
    rw [h2]
    exact Int.emod_eq_of_lt (Int.natCast_nonneg _) (by have := Int.ofNat_lt.2 hp; simpa using this)
  rw [e] at h
  show (Op.shift .shl .u64 1 .i64 (t : Int)).run P w = _
  rw [h]
  rfl
theorem bin_quoN {x y : Nat} (hx : x ≤ 9223372036854775807) (hy : y ≠ 0) (hy2 : y ≤ 9223372036854775807) :
    (vS (do eqGuard .quo T p q (.int .i64 (x : Int)) (.int .i64 (y : Int)); binOp .quo T (.int .i64 (x : Int)) (.int .i64 (y : Int)))).run P w = .ok (.value (.int .i64 ((x / y : Nat) : Int))) w := by
  refine vS_run ?_
  have h1 : ((x : Int)).tdiv (y : Int) = ((x / y : Nat) : Int) := by
    rw [Int.tdiv_eq_ediv_of_nonneg (by omega)]; rfl
  have h2 : x / y ≤ x := Nat.div_le_self _ _
  have h3 : ∀ z : Nat, z ≤ x → IntKind.i64.wrap (z : Int) = (z : Int) := fun z hz => by rw [IntKind.wrap_i64]; omega
  simp only [eqGuard, binOp, Op.intDiv]
  simp only [h1, h3 _ h2]
  simp [hy]
theorem bin_remNN {x y : Nat} (hy : y ≠ 0) :
    (vS (do eqGuard .rem T p q (.int .i64 (x : Int)) (.int .i64 (y : Int)); binOp .rem T (.int .i64 (x : Int)) (.int .i64 (y : Int)))).run P w = .ok (.value (.int .i64 ((x % y : Nat) : Int))) w :=
  bin_rem (x := (x : Int)) (y := (y : Int)) (by omega)
end
theorem as_u64 {z : Int} (h : 0 ≤ z ∧ z < 18446744073709551616) : Value.int .u64 (IntKind.u64.wrap z) = .int .u64 z := by
  rw [IntKind.wrap_u64, Int.emod_eq_of_lt h.1 h.2]
/-- an array that is a value, of elements of one cell -/
theorem ix_arr1 {P : Program} {w : World} {T e : TypeId} {len k : Nat} {cs : Array Value} {out : Value} {kd : IntKind} {i : Int} (hT : closedD P (underlying T) = some (.array len e)) (ha : closedB P (isAgg e) = some false) (hs : closedN P (sizeOf e) = some 1)
    (hi : i = (k : Int)) (hk : k < len) (ho : cs[k]? = some out) :
    (vS (Instr.index T (.agg cs) (.int kd i))).run P w = .ok (.value out) w := by
  subst hi
  refine vS_run ?_
  simp [Instr.index, asIntOf, closedD_run hT w, closedN_run hs w, part, closedB_run ha w, hk, ho]
theorem eq_arr2 {P : Program} {w : World} {T e : TypeId} {k kk : IntKind} {a b c d : Int} {dd : Nat} (hT : P.underlying T = some (.array 2 e)) (he : P.underlying e = some (.int kk)) (hs : closedN P (sizeOf e) = some 1) :
    (Op.equalIn (dd + 2) T (.agg #[.int k a, .int k b]) (.agg #[.int k c, .int k d])).run P w = .ok (a == c && b == d) w := by
  have hag : ∀ w, (isAgg e).run P w = .ok false w := fun w => by simp [isAgg, run_underlying he]
  have h1 := fun w a b => run_equalIn_int (P := P) w dd e k kk a b he
  obtain ⟨i, hi⟩ := info_of_underlying he
  have hc : P.cellsOf e = 1 := by
    have h2 := closedN_run hs w
    rw [run_sizeOf w hi] at h2
    simpa using h2
  rw [run_equalIn_array w (dd + 1) _ _ hT hi, hc]
  simp [List.range, List.range.loop, Op.eqItems, part, hag, h1]
  by_cases h : a = c <;> by_cases h' : b = d <;> simp [h, h']
theorem bin_arr2 {P : Program} {w : World} {T e : TypeId} {k kk : IntKind} {a b c d : Int} {x y : Operand} (hT : closedD P (underlying T) = some (.array 2 e)) (hT2 : P.underlying T = some (.array 2 e)) (he : P.underlying e = some (.int kk)) (hs : closedN P (sizeOf e) = some 1) (hg : P.eqGuardType P.depth T = false) {r : Bool} (hr : (!(a == c && b == d)) = r) :
    (vS (do eqGuard .neq T x y (.agg #[.int k a, .int k b]) (.agg #[.int k c, .int k d]); binOp .neq T (.agg #[.int k a, .int k b]) (.agg #[.int k c, .int k d]))).run P w = .ok (.value (.bool r)) w := by
  subst hr
  refine vS_run ?_
  have h := eq_arr2 (P := P) (w := w) (k := k) (a := a) (b := b) (c := c) (d := d) (dd := 9998) hT2 he hs
  simp [run_eqGuard_agg w .neq T x y _ _ hg, run_neq_struct, h]
end Go.Vc
