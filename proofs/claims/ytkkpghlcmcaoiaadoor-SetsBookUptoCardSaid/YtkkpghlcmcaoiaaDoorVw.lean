import Derived.Test.YtkkpghlcmcaoiaaDoorVb
import Derived.Laws.OwnMore
import Derived.Laws.Bits64b
import Derived.Laws.Shifts
import Derived.Laws.StructEq
import Derived.ChangeKeysEq
import Derived.Test.YtkkpghlcmcaoiaaDoorVh
import Derived.Test.YtkkpghlcmcaoiaaDoorVm
namespace Go.Vc
open Go
theorem madeCells_const (v : Value) {z : Array Value} {s : Nat} (hz : z = Array.replicate s v) (hs : 0 < s) (n : Nat) : (madeCells z n).toList = List.replicate n v := by
 subst hz
 apply List.ext_getElem?
 intro j
 by_cases hj : j < n
 ·have : j % s < s := Nat.mod_lt _ hs
  simp [madeCells, hj, this]
 ·simp [madeCells, hj]
theorem make_full {P : Program} {w : World} {T E : TypeId} {size bytes : Nat} {z : Array Value} (v : Value) {l : Nat} (ht : P.underlying T = some (.slice E)) (hinf : infoOf P E = some (size, bytes, z)) (hz : z = Array.replicate size v) (hs : 0 < size) (hb : bytes * l ≤ 281474976710656) (hl : l ≤ 9223372036854775807) :
  ∃ w', (vS (Instr.makeSlice T (.int .i64 (l : Int)) (.int .i64 (l : Int)))).run P w = .ok (.value (.slice (some ⟨w.heap.size, 0, none⟩) l l)) w' ∧ OwnR w' E size w.heap.size l l (List.replicate (l * size) v) ∧ Ext [] w w' ∧ w'.heap.size = w.heap.size + 1 := by
 obtain ⟨i, zv, hi, hz', rfl, rfl, rfl⟩ := infoOf_spec hinf
 have hb' : (i.bytes : Int) * (l : Int) ≤ 281474976710656 := by
  have : ((i.bytes * l : Nat) : Int) ≤ ((281474976710656 : Nat) : Int) := Int.ofNat_le.2 hb
  simpa using this
 have hr := run_make (P := P) w T E i zv ht hi hz' .i64 .i64 (l : Int) (l : Int) (by omega) (Int.le_refl _) hb' (by omega)
 simp only [Int.toNat_natCast] at hr
 refine ⟨_, vS_run hr, ⟨⟨_, Blk.new _ _ _, size_madeCells _ _, ?_⟩, Nat.le_refl _, by simp only [maxLen]; omega, by simp⟩, (Ext.refl _ _).alloc _, by simp⟩
 rw [madeCells_const v hz hs, List.take_replicate, Nat.min_self]
section
variable {P : Program} {w : World} {a : Act} {n : Nat} {m : Fm}
theorem retTA {fn : Func} {R : Ending → World → Prop} {t u b : Nat} {T T' : TypeId} {cs : Array Value} {x : Value} (hS : St n [] m a) (hr : fn.results = #[.tmp u, .cell t T]) (hag : closedB P (isAgg T) = some true) (hs : closedN P (sizeOf T) = some cs.size)
  (hu : fget m u = some x) (ht : fget m t = some (.pointer (some ⟨b, 0, none⟩))) (hb : Blk w b T' cs) (hR : R (.returned (.tuple #[x, .agg cs])) w) : bodyPost P fn R .ret a w := by
 refine ⟨hS.defers, .tuple #[x, .agg cs], ?_, hR⟩
 have hg := hS.getD ht
 have hx := hS.getD hu
 rw [Array.getD_eq_getD_getElem?] at hg hx
 simp [results, hr, hg, hx, asAddr, loadVar_blk hag hs hb]
theorem retATT {fn : Func} {R : Ending → World → Prop} {t u v b : Nat} {T T' : TypeId} {cs : Array Value} {x y : Value} (hS : St n [] m a) (hr : fn.results = #[.cell t T, .tmp u, .tmp v]) (hag : closedB P (isAgg T) = some true) (hs : closedN P (sizeOf T) = some cs.size)
  (ht : fget m t = some (.pointer (some ⟨b, 0, none⟩))) (hu : fget m u = some x) (hv : fget m v = some y) (hb : Blk w b T' cs) (hR : R (.returned (.tuple #[.agg cs, x, y])) w) : bodyPost P fn R .ret a w := by
 refine ⟨hS.defers, .tuple #[.agg cs, x, y], ?_, hR⟩
 have hg := hS.getD ht
 have hx := hS.getD hu
 have hy := hS.getD hv
 rw [Array.getD_eq_getD_getElem?] at hg hx hy
 simp [results, hr, hg, hx, hy, asAddr, loadVar_blk hag hs hb]
end
end Go.Vc
namespace Go.Vc
open Go
section
variable {P : Program} {w : World} {T : TypeId} {p q : Operand}
theorem bin_or64 {a b : Nat} (ha : a < 18446744073709551616) (hb : b < 18446744073709551616) :
  (vS (do eqGuard .or T p q (.int .u64 (a : Int)) (.int .u64 (b : Int)); binOp .or T (.int .u64 (a : Int)) (.int .u64 (b : Int)))).run P w = .ok (.value (.int .u64 ((a ||| b : Nat) : Int))) w := by
 refine vS_run ?_
 rw [← bits_or_u64_nat a b ha hb]
 rfl
theorem bin_and64 {a b : Nat} (ha : a < 18446744073709551616) (hb : b < 18446744073709551616) :
  (vS (do eqGuard .and T p q (.int .u64 (a : Int)) (.int .u64 (b : Int)); binOp .and T (.int .u64 (a : Int)) (.int .u64 (b : Int)))).run P w = .ok (.value (.int .u64 ((a &&& b : Nat) : Int))) w := by
 refine vS_run ?_
 rw [← bits_and_u64_nat a b ha hb]
 rfl
theorem bin_shl64 {t : Nat} (ht : t < 64) :
  (vS (do eqGuard .shl T p q (.int .u64 1) (.int .i64 (t : Int)); binOp .shl T (.int .u64 1) (.int .i64 (t : Int)))).run P w = .ok (.value (.int .u64 ((2 ^ t : Nat) : Int))) w := by
 refine vS_run ?_
 have h := shift_shl_u64 .i64 1 (t : Int) (by omega) (by omega)
 have hp : 2 ^ t < 2 ^ 64 := Nat.pow_lt_pow_right (by omega) ht
 have e : IntKind.u64.wrap (1 * 2 ^ (t : Int).toNat) = ((2 ^ t : Nat) : Int) := by
  rw [IntKind.wrap_u64, Int.toNat_natCast, Int.one_mul]
  have h2 : ((2 : Int) ^ t) = ((2 ^ t : Nat) : Int) := by simp
  rw [h2]
  exact Int.emod_eq_of_lt (Int.natCast_nonneg _) (by have := Int.ofNat_lt.2 hp; simpa using this)
 rw [e] at h
 show (Op.shift .shl .u64 1 .i64 (t : Int)).run P w = _
 rw [h]
 rfl
theorem bin_quoN {x y : Nat} (hx : x ≤ 9223372036854775807) (hy : y ≠ 0) (hy2 : y ≤ 9223372036854775807) :
  (vS (do eqGuard .quo T p q (.int .i64 (x : Int)) (.int .i64 (y : Int)); binOp .quo T (.int .i64 (x : Int)) (.int .i64 (y : Int)))).run P w = .ok (.value (.int .i64 ((x / y : Nat) : Int))) w := by
 refine vS_run ?_
 have h1 : ((x : Int)).tdiv (y : Int) = ((x / y : Nat) : Int) := by
  rw [Int.tdiv_eq_ediv_of_nonneg (by omega)]; rfl
 have h2 : x / y ≤ x := Nat.div_le_self _ _
 have h3 : ∀ z : Nat, z ≤ x → IntKind.i64.wrap (z : Int) = (z : Int) := fun z hz => by rw [IntKind.wrap_i64]; omega
 simp only [eqGuard, binOp, Op.intDiv]
 simp only [h1, h3 _ h2]
 simp [hy]
theorem bin_remNN {x y : Nat} (hy : y ≠ 0) :
  (vS (do eqGuard .rem T p q (.int .i64 (x : Int)) (.int .i64 (y : Int)); binOp .rem T (.int .i64 (x : Int)) (.int .i64 (y : Int)))).run P w = .ok (.value (.int .i64 ((x % y : Nat) : Int))) w :=
 bin_rem (x := (x : Int)) (y := (y : Int)) (by omega)
end
theorem as_u64 {z : Int} (h : 0 ≤ z ∧ z < 18446744073709551616) : Value.int .u64 (IntKind.u64.wrap z) = .int .u64 z := by
 rw [IntKind.wrap_u64, Int.emod_eq_of_lt h.1 h.2]
theorem ix_arr1 {P : Program} {w : World} {T e : TypeId} {len k : Nat} {cs : Array Value} {out : Value} {kd : IntKind} {i : Int} (hT : closedD P (underlying T) = some (.array len e)) (ha : closedB P (isAgg e) = some false) (hs : closedN P (sizeOf e) = some 1)
  (hi : i = (k : Int)) (hk : k < len) (ho : cs[k]? = some out) :
  (vS (Instr.index T (.agg cs) (.int kd i))).run P w = .ok (.value out) w := by
 subst hi
 refine vS_run ?_
 simp [Instr.index, asIntOf, closedD_run hT w, closedN_run hs w, part, closedB_run ha w, hk, ho]
theorem eq_arr2 {P : Program} {w : World} {T e : TypeId} {k kk : IntKind} {a b c d : Int} {dd : Nat} (hT : P.underlying T = some (.array 2 e)) (he : P.underlying e = some (.int kk)) (hs : closedN P (sizeOf e) = some 1) :
  (Op.equalIn (dd + 2) T (.agg #[.int k a, .int k b]) (.agg #[.int k c, .int k d])).run P w = .ok (a == c && b == d) w := by
 have hag : ∀ w, (isAgg e).run P w = .ok false w := fun w => by simp [isAgg, run_underlying he]
 have h1 := fun w a b => run_equalIn_int (P := P) w dd e k kk a b he
 obtain ⟨i, hi⟩ := info_of_underlying he
 have hc : P.cellsOf e = 1 := by
  have h2 := closedN_run hs w
  rw [run_sizeOf w hi] at h2
  simpa using h2
 rw [run_equalIn_array w (dd + 1) _ _ hT hi, hc]
 simp [List.range, List.range.loop, Op.eqItems, part, hag, h1]
 by_cases h : a = c <;> by_cases h' : b = d <;> simp [h, h']
theorem bin_arr2 {P : Program} {w : World} {T e : TypeId} {k kk : IntKind} {a b c d : Int} {x y : Operand} (hT : closedD P (underlying T) = some (.array 2 e)) (hT2 : P.underlying T = some (.array 2 e)) (he : P.underlying e = some (.int kk)) (hs : closedN P (sizeOf e) = some 1) (hg : P.eqGuardType P.depth T = false) {r : Bool} (hr : (!(a == c && b == d)) = r) :
  (vS (do eqGuard .neq T x y (.agg #[.int k a, .int k b]) (.agg #[.int k c, .int k d]); binOp .neq T (.agg #[.int k a, .int k b]) (.agg #[.int k c, .int k d]))).run P w = .ok (.value (.bool r)) w := by
 subst hr
 refine vS_run ?_
 have h := eq_arr2 (P := P) (w := w) (k := k) (a := a) (b := b) (c := c) (d := d) (dd := 9998) hT2 he hs
 simp [run_eqGuard_agg w .neq T x y _ _ hg, run_neq_struct, h]
end Go.Vc
namespace Go.Vc
open Go
def rsz (s : Nat) (v : Value) (l h m : Nat) : Value := match v with
 | .slice a _ _ => .slice (if m = l then a else a.map (·.add (l * s))) (h - l) (m - l)
 | v => v
section
variable {w w' : World} {n : Nat} {v : Value} {xs : List Value} {size : Nat}
theorem RdV.capZ (h : RdV w size v n xs) : n ≤ capOf v := by
 rcases h with ⟨a, c, rfl, rfl, _⟩ | ⟨b, off, cap, rfl, _, h2, _⟩
 ·exact Nat.zero_le _
 ·exact h2
theorem RdV.cutZ (h : RdV w size v n xs) {l k m : Nat} (hl : l ≤ k) (hk : k ≤ n) (hm : k ≤ m) : RdV w size (rsz size v l k m) (k - l) ((xs.drop (l * size)).take ((k - l) * size)) := by
 rcases h with ⟨a, c, rfl, rfl, rfl⟩ | ⟨b, off, cap, rfl, h1, h2, h3⟩
 ·obtain rfl : k = 0 := by omega
  exact .inl ⟨_, _, by rw [rsz, Nat.zero_sub], by simp, by simp⟩
 ·by_cases hkl : k = l
  ·subst hkl
   exact .inl ⟨_, _, by rw [rsz, Nat.sub_self], by simp, by simp⟩
  ·refine .inr ⟨b, off + l * size, m - l, ?_, ?_, by omega, fun j u hu => ?_⟩
   ·have hne : m ≠ l := by omega
    simp only [rsz, if_neg hne, Option.map_some]
    have hadd : (⟨b, off, none⟩ : Addr).add (l * size) = ⟨b, off + l * size, none⟩ := addr_add b off (l * size)
    rw [hadd]
   ·have e1 : (k - l) * size ≤ (n - l) * size := Nat.mul_le_mul_right _ (by omega)
    rw [List.length_take, List.length_drop, h1, ← Nat.sub_mul]; omega
   ·rw [List.getElem?_take] at hu
    split at hu
    ·rw [List.getElem?_drop] at hu
     rw [show off + l * size + j = off + (l * size + j) by omega]
     exact h3 (l * size + j) u hu
    ·cases hu
theorem sl_z {P : Program} {w0 : World} {T e : TypeId} {l k : Nat} (lo hi : Option Value) (h : RdV w0 size v n xs) (hT : closedD P (underlying T) = some (.slice e)) (hs : closedN P (sizeOf e) = some size)
  (hlo : (lo = none ∧ l = 0) ∨ ∃ kd, lo = some (.int kd (l : Int))) (hhi : (hi = none ∧ k = n) ∨ ∃ kd, hi = some (.int kd (k : Int))) (hl : l ≤ k) (hk : k ≤ n) :
  (vS (Instr.sliceAt T v lo hi none)).run P w = .ok (.value (rsz size v l k (capOf v))) w := by
 have hc := h.capZ
 obtain ⟨a, c, rfl, hn⟩ : ∃ a c, v = .slice a n c ∧ n ≤ c := by
  rcases h with ⟨a, c, rfl, rfl, _⟩ | ⟨b, off, cap, rfl, _, h2, _⟩
  ·exact ⟨a, c, rfl, Nat.zero_le _⟩
  ·exact ⟨_, cap, rfl, h2⟩
 have hkc : k ≤ c := by omega
 refine vS_run ?_
 rcases hlo with ⟨rfl, rfl⟩ | ⟨kd, rfl⟩ <;> rcases hhi with ⟨rfl, rfl⟩ | ⟨kd', rfl⟩ <;>
  simp [Instr.sliceAt, Instr.slice, Instr.sliceBounds, Instr.sliceBound, asIntOf, closedD_run hT w, closedN_run hs w, hl, hk, hkc, hn, rsz, capOf]
 all_goals rfl
end
end Go.Vc
namespace Go.Vc
open Go
theorem upon_store_ownN {P : Program} {ops : Array Oper} {w : World} {n : Nat} {m : Fm} {i : Nat} {b off size cap len : Nat} {vs : List Value} {e : TypeId} {xs : List Value} {Post : Value → World → Prop} (ho : storeOf P ops n m i = some (b, off, vs)) (hO : OwnR w e size b cap len xs)
  (hlt : off + vs.length ≤ len * size) (hp : ∀ w', OwnR w' e size b cap len (setL xs off vs) → Ext [b] w w' → w'.heap.size = w.heap.size → Post undef w') : UponAt P ops n m i w Post := by
 obtain ⟨⟨cur, hb, hs, ht⟩, h1, h2, h3⟩ := hO
 have hm : len * size ≤ cap * size := Nat.mul_le_mul_right _ h1
 exact upon_store ho hb (by omega) (hp _ (OwnR.setN hb hs ht h1 h2 h3) ((Ext.refl [b] w).updIn (.inl (by simp)) _ _) upd_size)
end Go.Vc
