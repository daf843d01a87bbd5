/- Strings, and arrays that are values, in the calculus of sparse frames. It states nothing of any program. -/
import Derived.Test.YtkkpghlcmcaoiaaDoorVb
namespace Go.Vc
open Go

/-- 's[k]' -/
theorem ix_str {P : Program} {w : World} {T : TypeId} {s : ByteArray} {k b : Nat} {kd : IntKind} {i : Int} (hT : closedD P (underlying T) = some .string) (hi : i = (k : Int)) (hb : (s[k]?).map UInt8.toNat = some b) :
    (vS (Instr.index T (.string s) (.int kd i))).run P w = .ok (.value (.int .u8 (b : Int))) w := by
  subst hi
  refine vS_run ?_
  cases hs : s[k]? with
  | none => rw [hs] at hb; simp at hb
  | some x =>
    rw [hs] at hb
    simp only [Option.map_some, Option.some.injEq] at hb
    subst hb
    simp [Instr.index, asIntOf, closedD_run hT w, hs]

/-- 's[i:j]' -/
theorem sl_str {P : Program} {w : World} {T : TypeId} {s : ByteArray} {i j : Nat} {ki kj : IntKind} {x y : Int} (hT : closedD P (underlying T) = some .string) (hx : x = (i : Int)) (hy : y = (j : Int)) (h1 : i ≤ j) (h2 : j ≤ s.size) :
    (vS (Instr.sliceAt T (.string s) (some (.int ki x)) (some (.int kj y)) none)).run P w = .ok (.value (.string (s.extract i j))) w := by
  subst hx hy
  refine vS_run ?_
  have e1 : ¬((j : Int) < 0) := by omega
  have e2 : ¬((i : Int) < 0) := by omega
  simp [Instr.sliceAt, Instr.slice, Instr.sliceBounds, Instr.sliceBound, asIntOf, closedD_run hT w, h1, h2]

theorem bin_str_eql {P : Program} {w : World} {T : TypeId} {a b : Operand} {x y : ByteArray} {r : Bool} (h : (x == y) = r) :
    (vS (do eqGuard .eql T a b (.string x) (.string y); binOp .eql T (.string x) (.string y))).run P w = .ok (.value (.bool r)) w := by
  subst h
  refine vS_run ?_
  simp [eqGuard, binOp, Op.stringOp, beq_toListBytes]
theorem bin_str_neq {P : Program} {w : World} {T : TypeId} {a b : Operand} {x y : ByteArray} {r : Bool} (h : (!(x == y)) = r) :
    (vS (do eqGuard .neq T a b (.string x) (.string y); binOp .neq T (.string x) (.string y))).run P w = .ok (.value (.bool r)) w := by
  subst h
  refine vS_run ?_
  simp [eqGuard, binOp, Op.stringOp, beq_toListBytes]

/-- an array that is a value, of elements of many cells -/
theorem ix_arr {P : Program} {w : World} {T e : TypeId} {len sz k : Nat} {cs out : Array Value} {kd : IntKind} {i : Int} (hT : closedD P (underlying T) = some (.array len e)) (ha : closedB P (isAgg e) = some true) (hs : closedN P (sizeOf e) = some sz)
    (hi : i = (k : Int)) (hk : k < len) (ho : cs.extract (k * sz) (k * sz + sz) = out) :
    (vS (Instr.index T (.agg cs) (.int kd i))).run P w = .ok (.value (.agg out)) w := by
  subst hi ho
  refine vS_run ?_
  simp [Instr.index, asIntOf, closedD_run hT w, closedN_run hs w, part, closedB_run ha w, hk]
end Go.Vc
