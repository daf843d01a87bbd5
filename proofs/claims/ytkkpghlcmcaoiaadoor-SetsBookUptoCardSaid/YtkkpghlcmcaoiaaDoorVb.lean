import Derived.Test.YtkkpghlcmcaoiaaDoorVa
import Derived.Laws.StructEq
namespace Go.Vc
open Go
def oa : Option Addr → List Nat
 | some a => [a.block]
 | none => []
theorem ob_oa (b : Option Addr) (n c : Nat) : ob (.slice b n c) = oa b := by cases b <;> rfl
section
variable {w w' : World} {e : TypeId} {size g cap n k : Nat} {v u : Value} {xs : List Value} {M : List Nat}
theorem OwnR.set1 {cs : Array Value} {off : Nat} (hb : Blk w g e cs) (hs : cs.size = cap * size) (ht : cs.toList.take (n * size) = xs) (h1 : n ≤ cap) (h2 : cap ≤ maxLen) (h3 : xs.length = n * size) :
  OwnR (upd w g e (setAt cs off [u])) e size g cap n (xs.set off u) := by
 refine ⟨⟨_, hb.upd _ _, by simpa [setAt] using hs, ?_⟩, h1, h2, by simpa using h3⟩
 simp only [setAt, Array.toList_setIfInBounds]
 rw [List.take_set, ht]
theorem OwnR.any (h : OwnR w e size g cap n xs) (hk : k ≤ cap) : ∃ ys, OwnR w e size g cap k ys := by
 obtain ⟨⟨cur, hb, hs, ht⟩, h1, h2, h3⟩ := h
 refine ⟨cur.toList.take (k * size), ⟨cur, hb, hs, rfl⟩, hk, h2, ?_⟩
 rw [List.length_take, Array.length_toList, hs]
 exact Nat.min_eq_left (Nat.mul_le_mul_right _ hk)
def resl : Value → Nat → Value
 | .slice b _ c, k => .slice b k c
 | v, _ => v
theorem OwnV.resl (h : OwnV w e size v n xs) (hk : k ≤ n) : OwnV w e size (resl v k) k (xs.take (k * size)) := by
 rcases h with ⟨rfl, rfl, rfl⟩ | ⟨g, cap, rfl, h⟩
 ·obtain rfl : k = 0 := by omega
  exact .inl ⟨rfl, rfl, by simp⟩
 ·exact .inr ⟨g, cap, rfl, h.take hk⟩
theorem OwnV.form (h : OwnV w e size v n xs) : ∃ b c, v = .slice b n c := by
 rcases h with ⟨rfl, rfl, rfl⟩ | ⟨g, cap, rfl, h⟩
 ·exact ⟨none, 0, rfl⟩
 ·exact ⟨_, _, rfl⟩
theorem OwnV.some_of_pos (h : OwnV w e size v n xs) (hn : 0 < n) : ∃ g cap, v = .slice (some ⟨g, 0, none⟩) n cap ∧ OwnR w e size g cap n xs := by
 rcases h with ⟨rfl, rfl, rfl⟩ | h
 ·omega
 ·exact h
theorem OwnV.disj {e' : TypeId} {size' n' : Nat} {v' : Value} {xs' : List Value} (h : OwnV w e size v n xs) (h' : OwnV w e' size' v' n' xs') (he : e ≠ e') : ∀ b ∈ ob v, b ∉ ob v' := fun b hb hb' => by
 rcases h with ⟨rfl, _⟩ | ⟨g, cap, rfl, h⟩
 ·have hb : b ∈ ([] : List Nat) := hb; cases hb
 ·have hb : b = g := by simpa [ob] using hb
  subst hb
  rcases h' with ⟨rfl, _⟩ | ⟨g', cap', rfl, h'⟩
  ·have hb' : b ∈ ([] : List Nat) := hb'; cases hb'
  ·have hb' : b = g' := by simpa [ob] using hb'
   subst hb'
   obtain ⟨⟨cur, hc, _⟩, _⟩ := h'
   exact he (h.same hc)
theorem OwnR.toBlk (h : OwnR w e size g cap n xs) : ∃ cs, Blk w g e cs := by obtain ⟨⟨cur, hc, _⟩, _⟩ := h; exact ⟨cur, hc⟩
theorem OwnV.neR {e' : TypeId} {size' g' cap' n' : Nat} {xs' : List Value} (h : OwnV w e size v n xs) (h' : OwnR w e' size' g' cap' n' xs') (he : e ≠ e') : ∀ x ∈ ob v, g' ≠ x := by
 obtain ⟨cs, hb⟩ := h'.toBlk
 exact h.ne hb he
theorem OwnR.neR {e' : TypeId} {size' g' cap' n' : Nat} {xs' : List Value} (h : OwnR w e size g cap n xs) (h' : OwnR w e' size' g' cap' n' xs') (he : e ≠ e') : g ≠ g' := by
 obtain ⟨cs, hb⟩ := h'.toBlk
 exact h.ne_type hb he
/-! ### rows that are read alone -/
def RdV (w : World) (size : Nat) (v : Value) (n : Nat) (xs : List Value) : Prop :=
 (∃ a c, v = .slice a 0 c ∧ n = 0 ∧ xs = []) ∨ ∃ b off cap, v = .slice (some ⟨b, off, none⟩) n cap ∧ xs.length = n * size ∧ n ≤ cap ∧ (∀ j u, xs[j]? = some u → w.cell? ⟨b, off + j, none⟩ = some u)
def oof : Value → Nat
 | .slice (some a) _ _ => a.off
 | _ => 0
theorem cell_ext {b off : Nat} (h : w.cell? ⟨b, off, none⟩ = some u) (hE : Ext M w w') (hM : b ∉ M) : w'.cell? ⟨b, off, none⟩ = some u := by
 have hlt : b < w.heap.size := by
  rcases Nat.lt_or_ge b w.heap.size with h1 | h1
  ·exact h1
  ·rw [World.cell?, Array.getElem?_eq_none h1] at h; cases h
 have hk := hE.keep b hlt hM
 rw [World.cell?] at h ⊢
 rw [hk]; exact h
theorem RdV.ext (h : RdV w size v n xs) (hE : Ext M w w') (hM : ∀ b ∈ ob v, b ∉ M) : RdV w' size v n xs := by
 rcases h with h | ⟨b, off, cap, rfl, h1, h2, h3⟩
 ·exact .inl h
 ·exact .inr ⟨b, off, cap, rfl, h1, h2, fun j u hu => cell_ext (h3 j u hu) hE (hM b (by simp [ob]))⟩
theorem RdV.ext0 (h : RdV w size v n xs) (hE : Ext [] w w') : RdV w' size v n xs := h.ext hE (by simp)
theorem OwnV.rd (h : OwnV w e size v n xs) : RdV w size v n xs := by
 rcases h with ⟨h1, h2, h3⟩ | ⟨g, cap, rfl, h⟩
 ·exact .inl ⟨none, 0, h1, h2, h3⟩
 ·exact .inr ⟨g, 0, cap, rfl, h.len, h.le, fun j u hu => by rw [Nat.zero_add]; exact h.cellAt j hu⟩
theorem RdV.len (h : RdV w size v n xs) : xs.length = n * size := by
 rcases h with ⟨a0, c0, rfl, rfl, rfl⟩ | ⟨b, off, cap, rfl, h1, _⟩
 ·simp
 ·exact h1
theorem RdV.cellAt (h : RdV w size v n xs) (j : Nat) {o : Nat} (ho : o = oof v + j) (hj : xs[j]? = some u) : w.cell? ⟨bof v, o, none⟩ = some u := by
 subst ho
 rcases h with ⟨a0, c0, rfl, rfl, rfl⟩ | ⟨b, off, cap, rfl, h1, h2, h3⟩
 ·simp at hj
 ·exact h3 j u hj
theorem ix_rd {P : Program} {w0 : World} {T : TypeId} {j : Nat} {k : IntKind} {i : Int} (h : RdV w0 size v n xs) (hT : closedD P (underlying T) = some (.slice e)) (hs : closedN P (sizeOf e) = some size)
  (hi : i = (j : Int)) (hj : j < n) : (vS (Instr.indexAt T v (.int k i))).run P w = .ok (.value (.pointer (some ⟨bof v, oof v + j * size, none⟩))) w := by
 rcases h with ⟨a0, c0, rfl, rfl, rfl⟩ | ⟨b, off, cap, rfl, h1, h2, h3⟩
 ·omega
 ·exact ix_slice hT hs hi hj
theorem run_len_rd {P : Program} {w0 : World} {T ty : TypeId} (h : RdV w0 size v n xs) (hT : closedD P (underlying T) = some (.slice e)) :
  (vS (Builtin.len_ #[T] ty #[v])).run P w = .ok (.value (.int .i64 n)) w := by
 refine vS_run ?_
 rcases h with ⟨a0, c0, rfl, rfl, rfl⟩ | ⟨b, off, cap, rfl, h⟩
 ·simp [Builtin.len_, closedD_run hT w, goInt]
 ·simp [Builtin.len_, closedD_run hT w, goInt]
theorem ixr {P : Program} {w0 w : World} {T : TypeId} {k : IntKind} {v : Value} {size n : Nat} {xs : List Value} (e : TypeId) (j : Nat) (h : RdV w0 size v n xs) (hj : j < n := by omega) (hT : closedD P (underlying T) = some (.slice e) := by kernel_rfl) (hs : closedN P (sizeOf e) = some size := by kernel_rfl) :
  (vS (Instr.indexAt T v (.int k (j : Int)))).run P w = .ok (.value (.pointer (some ⟨bof v, oof v + j * size, none⟩))) w := ix_rd h hT hs rfl hj
theorem rlr {P : Program} {w0 w : World} {T ty : TypeId} {v : Value} {size n : Nat} {xs : List Value} (e : TypeId) (h : RdV w0 size v n xs) (hT : closedD P (underlying T) = some (.slice e) := by kernel_rfl) :
  (vS (Builtin.len_ #[T] ty #[v])).run P w = .ok (.value (.int .i64 n)) w := run_len_rd h hT
end
/-! ### into a row -/
section
variable {F : Fence} {P : Program} {ops : Array Oper} {Q : Exit → Act → World → Prop} {a : Act} {w : World} {n : Nat} {ds : List Deferred} {m : Fm}
theorem eff_store_own (hW : Wide F) {i r : Nat} {b off size cap len : Nat} {u : Value} {e : TypeId} {xs : List Value} (hS : St n ds m a) (ho : storeOf P ops n m i = some (b, off, [u])) (hO : OwnR w e size b cap len xs)
  (hlt : off < len * size)
  (hk : ∀ a' w', OwnR w' e size b cap len (xs.set off u) → Ext [b] w w' → w'.heap.size = w.heap.size → St n ds m a' → wpOpsIn F 0 P ops Q (List.range' (i + 1) r) a' w') :
  wpOpsIn F 0 P ops Q (List.range' i (r + 1)) a w := by
 obtain ⟨⟨cur, hb, hs, ht⟩, h1, h2, h3⟩ := hO
 have hm : len * size ≤ cap * size := Nat.mul_le_mul_right _ h1
 refine eff_store hW hS ho hb (by simp only [List.length_cons, List.length_nil]; omega) fun a' w' hw hS' => ?_
 subst hw
 exact hk _ _ (OwnR.set1 hb hs ht h1 h2 h3) ((Ext.refl [b] w).updIn (.inl (by simp)) _ _) upd_size hS'
theorem upon_store_own {i : Nat} {b off size cap len : Nat} {u : Value} {e : TypeId} {xs : List Value} {Post : Value → World → Prop} (ho : storeOf P ops n m i = some (b, off, [u])) (hO : OwnR w e size b cap len xs)
  (hlt : off < len * size) (hp : ∀ w', OwnR w' e size b cap len (xs.set off u) → Ext [b] w w' → w'.heap.size = w.heap.size → Post undef w') : UponAt P ops n m i w Post := by
 obtain ⟨⟨cur, hb, hs, ht⟩, h1, h2, h3⟩ := hO
 have hm : len * size ≤ cap * size := Nat.mul_le_mul_right _ h1
 exact upon_store ho hb (by simp only [List.length_cons, List.length_nil]; omega) (hp _ (OwnR.set1 hb hs ht h1 h2 h3) ((Ext.refl [b] w).updIn (.inl (by simp)) _ _) upd_size)
end
theorem make_len {P : Program} {w : World} {T E : TypeId} {size bytes : Nat} {z : Array Value} {l : Int} (ht : P.underlying T = some (.slice E)) (hinf : infoOf P E = some (size, bytes, z)) (hc : 0 ≤ l) (hb : (bytes : Int) * l ≤ 281474976710656) (hl : l ≤ 9223372036854775807) :
  ∃ w' xs, (vS (Instr.makeSlice T (.int .i64 l) (.int .i64 l))).run P w = .ok (.value (.slice (some ⟨w.heap.size, 0, none⟩) l.toNat l.toNat)) w' ∧ OwnR w' E size w.heap.size l.toNat l.toNat xs ∧ Ext [] w w' ∧ w'.heap.size = w.heap.size + 1 := by
 obtain ⟨i, zv, hi, hz, rfl, rfl, rfl⟩ := infoOf_spec hinf
 have hr := run_make (P := P) w T E i zv ht hi hz .i64 .i64 l l hc (Int.le_refl _) hb hl
 refine ⟨_, _, vS_run hr, ⟨⟨_, Blk.new _ _ _, size_madeCells _ _, rfl⟩, Nat.le_refl _, by simp only [maxLen]; omega, ?_⟩, (Ext.refl _ _).alloc _, by simp⟩
 rw [List.length_take, Array.length_toList, size_madeCells, Nat.min_self]
/-! ### results that lie in boxes of many cells -/
section
variable {P : Program} {w : World} {a : Act} {n : Nat} {m : Fm}
theorem loadVar_blk {T T' : TypeId} {b : Nat} {cs : Array Value} (hag : closedB P (isAgg T) = some true) (hs : closedN P (sizeOf T) = some cs.size) (hb : Blk w b T' cs) : (loadVar T ⟨b, 0, none⟩).run P w = .ok (.agg cs) w := by
 have h := run_loadCells_list (P := P) w ⟨b, 0, none⟩ cs.toList (fun j v hv => by rw [addr_add, Nat.zero_add]; exact hb.cell j (by simpa using hv))
 simp only [Array.length_toList, Array.toArray_toList] at h
 simp [loadVar, closedB_run hag w, closedN_run hs w, h]
theorem retA1 {fn : Func} {R : Ending → World → Prop} {t b : Nat} {T T' : TypeId} {cs : Array Value} (hS : St n [] m a) (hr : fn.results = #[.cell t T]) (hag : closedB P (isAgg T) = some true) (hs : closedN P (sizeOf T) = some cs.size)
  (ht : fget m t = some (.pointer (some ⟨b, 0, none⟩))) (hb : Blk w b T' cs) (hR : R (.returned (.agg cs)) w) : bodyPost P fn R .ret a w := by
 refine ⟨hS.defers, .agg cs, ?_, hR⟩
 have hg := hS.getD ht
 rw [Array.getD_eq_getD_getElem?] at hg
 simp [results, hr, hg, asAddr, loadVar_blk hag hs hb]
theorem retA2 {fn : Func} {R : Ending → World → Prop} {t u b : Nat} {T T' : TypeId} {cs : Array Value} {x : Value} (hS : St n [] m a) (hr : fn.results = #[.cell t T, .tmp u]) (hag : closedB P (isAgg T) = some true) (hs : closedN P (sizeOf T) = some cs.size)
  (ht : fget m t = some (.pointer (some ⟨b, 0, none⟩))) (hu : fget m u = some x) (hb : Blk w b T' cs) (hR : R (.returned (.tuple #[.agg cs, x])) w) : bodyPost P fn R .ret a w := by
 refine ⟨hS.defers, .tuple #[.agg cs, x], ?_, hR⟩
 have hg := hS.getD ht
 have hx := hS.getD hu
 rw [Array.getD_eq_getD_getElem?] at hg hx
 simp [results, hr, hg, hx, asAddr, loadVar_blk hag hs hb]
end
theorem bin_and1 {P : Program} {w : World} {T : TypeId} {a b : Operand} {x : Int} :
  (vS (do eqGuard .and T a b (.int .i64 x) (.int .i64 1); binOp .and T (.int .i64 x) (.int .i64 1))).run P w = .ok (.value (.int .i64 (x % 2))) w := by
 have h : ((BitVec.ofInt 64 x) &&& (BitVec.ofInt 64 1)).toNat = (x % 2).toNat := by
  rw [BitVec.toNat_and, BitVec.toNat_ofInt, BitVec.toNat_ofInt]
  have h1 : ((1 : Int) % ((2 ^ 64 : Nat) : Int)).toNat = 1 := by decide
  rw [h1, Nat.and_one_is_mod]
  have h2 : ((2 ^ 64 : Nat) : Int) = 18446744073709551616 := by decide
  rw [h2]
  omega
 have h3 : IntKind.i64.wrap (((BitVec.ofInt 64 x) &&& (BitVec.ofInt 64 1)).toNat : Int) = x % 2 := by
  rw [h]
  have := as_i64 (z := ((x % 2).toNat : Int)) (by omega)
  simp only [Value.int.injEq, true_and] at this
  rw [this]; omega
 refine vS_run ?_
 have h4 : (binOp .and T (.int .i64 x) (.int .i64 1)).run P w = .ok (.int .i64 (IntKind.i64.wrap (((BitVec.ofInt 64 x) &&& (BitVec.ofInt 64 1)).toNat : Int))) w := rfl
 rw [h3] at h4
 simpa [eqGuard] using h4
def isStruct (P : Program) (T : TypeId) : Bool := match P.underlying T with
 | some (.struct _) => true
 | _ => false
theorem OwnV.ext0' {w w' : World} {e : TypeId} {size n : Nat} {v : Value} {xs : List Value} (h : OwnV w e size v n xs) (hE : Ext [] w w') : OwnV w' e size v n xs := h.ext hE (by simp)
end Go.Vc
