import Derived.Laws.OwnMore
import Derived.Laws.Bits64b
import Derived.Laws.Shifts
import Derived.Laws.StructEq
import Derived.ChangeKeysEq
import Derived.Test.YtkkpghlcmcaoiaaDoorVh
import Derived.Test.YtkkpghlcmcaoiaaDoorVm
import Derived.Test.YtkkpghlcmcaoiaaDoorS3
namespace Go.Vc
open Go
theorem madeCells_const (v : Value) {z : Array Value} {s : Nat} (hz : z = Array.replicate s v) (hs : 0 < s) (n : Nat) : (madeCells z n).toList = List.replicate n v := by
 subst hz
 apply List.ext_getElem?
 intro j
 by_cases hj : j < n
 ·have : j % s < s := Nat.mod_lt _ hs
  simp [madeCells, hj, this]
 ·simp [madeCells, hj]
theorem make_full {P : Program} {w : World} {T E : TypeId} {size bytes : Nat} {z : Array Value} (v : Value) {l : Nat} (ht : P.underlying T = some (.slice E)) (hinf : infoOf P E = some (size, bytes, z)) (hz : z = Array.replicate size v) (hs : 0 < size) (hb : bytes * l ≤ 281474976710656) (hl : l ≤ 9223372036854775807) :
  ∃ w', (vS (Instr.makeSlice T (.int .i64 (l : Int)) (.int .i64 (l : Int)))).run P w = .ok (.value (.slice (some ⟨w.heap.size, 0, none⟩) l l)) w' ∧ OwnR w' E size w.heap.size l l (List.replicate (l * size) v) ∧ Ext [] w w' ∧ w'.heap.size = w.heap.size + 1 := by
 obtain ⟨i, zv, hi, hz', rfl, rfl, rfl⟩ := infoOf_spec hinf
 have hb' : (i.bytes : Int) * (l : Int) ≤ 281474976710656 := by
  have : ((i.bytes * l : Nat) : Int) ≤ ((281474976710656 : Nat) : Int) := Int.ofNat_le.2 hb
  simpa using this
 have hr := run_make (P := P) w T E i zv ht hi hz' .i64 .i64 (l : Int) (l : Int) (by omega) (Int.le_refl _) hb' (by omega)
 simp only [Int.toNat_natCast] at hr
 refine ⟨_, vS_run hr, ⟨⟨_, Blk.new _ _ _, size_madeCells _ _, ?_⟩, Nat.le_refl _, by simp only [maxLen]; omega, by simp⟩, (Ext.refl _ _).alloc _, by simp⟩
 rw [madeCells_const v hz hs, List.take_replicate, Nat.min_self]
section
variable {P : Program} {w : World} {a : Act} {n : Nat} {m : Fm}
theorem retTA {fn : Func} {R : Ending → World → Prop} {t u b : Nat} {T T' : TypeId} {cs : Array Value} {x : Value} (hS : St n [] m a) (hr : fn.results = #[.tmp u, .cell t T]) (hag : closedB P (isAgg T) = some true) (hs : closedN P (sizeOf T) = some cs.size)
  (hu : fget m u = some x) (ht : fget m t = some (.pointer (some ⟨b, 0, none⟩))) (hb : Blk w b T' cs) (hR : R (.returned (.tuple #[x, .agg cs])) w) : bodyPost P fn R .ret a w := by
 refine ⟨hS.defers, .tuple #[x, .agg cs], ?_, hR⟩
 have hg := hS.getD ht
 have hx := hS.getD hu
 rw [Array.getD_eq_getD_getElem?] at hg hx
 simp [results, hr, hg, hx, asAddr, loadVar_blk hag hs hb]
end
end Go.Vc
namespace Go.Vc
open Go
section
variable {P : Program} {w : World} {T : TypeId} {p q : Operand}
theorem bin_or64 {a b : Nat} (ha : a < 18446744073709551616) (hb : b < 18446744073709551616) :
  (vS (do eqGuard .or T p q (.int .u64 (a : Int)) (.int .u64 (b : Int)); binOp .or T (.int .u64 (a : Int)) (.int .u64 (b : Int)))).run P w = .ok (.value (.int .u64 ((a ||| b : Nat) : Int))) w := by
 refine vS_run ?_
 rw [← bits_or_u64_nat a b ha hb]
 rfl
theorem bin_and64 {a b : Nat} (ha : a < 18446744073709551616) (hb : b < 18446744073709551616) :
  (vS (do eqGuard .and T p q (.int .u64 (a : Int)) (.int .u64 (b : Int)); binOp .and T (.int .u64 (a : Int)) (.int .u64 (b : Int)))).run P w = .ok (.value (.int .u64 ((a &&& b : Nat) : Int))) w := by
 refine vS_run ?_
 rw [← bits_and_u64_nat a b ha hb]
 rfl
theorem bin_shl64 {t : Nat} (ht : t < 64) :
  (vS (do eqGuard .shl T p q (.int .u64 1) (.int .i64 (t : Int)); binOp .shl T (.int .u64 1) (.int .i64 (t : Int)))).run P w = .ok (.value (.int .u64 ((2 ^ t : Nat) : Int))) w := by
 refine vS_run ?_
 have h := shift_shl_u64 .i64 1 (t : Int) (by omega) (by omega)
 have hp : 2 ^ t < 2 ^ 64 := Nat.pow_lt_pow_right (by omega) ht
 have e : IntKind.u64.wrap (1 * 2 ^ (t : Int).toNat) = ((2 ^ t : Nat) : Int) := by
  rw [IntKind.wrap_u64, Int.toNat_natCast, Int.one_mul]
  have h2 : ((2 : Int) ^ t) = ((2 ^ t : Nat) : Int) := by simp
  rw [h2]
  exact Int.emod_eq_of_lt (Int.natCast_nonneg _) (by have := Int.ofNat_lt.2 hp; simpa using this)
 rw [e] at h
 show (Op.shift .shl .u64 1 .i64 (t : Int)).run P w = _
 rw [h]
 rfl
theorem bin_quoN {x y : Nat} (hx : x ≤ 9223372036854775807) (hy : y ≠ 0) (hy2 : y ≤ 9223372036854775807) :
  (vS (do eqGuard .quo T p q (.int .i64 (x : Int)) (.int .i64 (y : Int)); binOp .quo T (.int .i64 (x : Int)) (.int .i64 (y : Int)))).run P w = .ok (.value (.int .i64 ((x / y : Nat) : Int))) w := by
 refine vS_run ?_
 have h1 : ((x : Int)).tdiv (y : Int) = ((x / y : Nat) : Int) := by
  rw [Int.tdiv_eq_ediv_of_nonneg (by omega)]; rfl
 have h2 : x / y ≤ x := Nat.div_le_self _ _
 have h3 : ∀ z : Nat, z ≤ x → IntKind.i64.wrap (z : Int) = (z : Int) := fun z hz => by rw [IntKind.wrap_i64]; omega
 simp only [eqGuard, binOp, Op.intDiv]
 simp only [h1, h3 _ h2]
 simp [hy]
theorem bin_remNN {x y : Nat} (hy : y ≠ 0) :
  (vS (do eqGuard .rem T p q (.int .i64 (x : Int)) (.int .i64 (y : Int)); binOp .rem T (.int .i64 (x : Int)) (.int .i64 (y : Int)))).run P w = .ok (.value (.int .i64 ((x % y : Nat) : Int))) w :=
 bin_rem (x := (x : Int)) (y := (y : Int)) (by omega)
end
theorem as_u64 {z : Int} (h : 0 ≤ z ∧ z < 18446744073709551616) : Value.int .u64 (IntKind.u64.wrap z) = .int .u64 z := by
 rw [IntKind.wrap_u64, Int.emod_eq_of_lt h.1 h.2]
theorem ix_arr1 {P : Program} {w : World} {T e : TypeId} {len k : Nat} {cs : Array Value} {out : Value} {kd : IntKind} {i : Int} (hT : closedD P (underlying T) = some (.array len e)) (ha : closedB P (isAgg e) = some false) (hs : closedN P (sizeOf e) = some 1)
  (hi : i = (k : Int)) (hk : k < len) (ho : cs[k]? = some out) :
  (vS (Instr.index T (.agg cs) (.int kd i))).run P w = .ok (.value out) w := by
 subst hi
 refine vS_run ?_
 simp [Instr.index, asIntOf, closedD_run hT w, closedN_run hs w, part, closedB_run ha w, hk, ho]
theorem eq_arr2 {P : Program} {w : World} {T e : TypeId} {k kk : IntKind} {a b c d : Int} {dd : Nat} (hT : P.underlying T = some (.array 2 e)) (he : P.underlying e = some (.int kk)) (hs : closedN P (sizeOf e) = some 1) :
  (Op.equalIn (dd + 2) T (.agg #[.int k a, .int k b]) (.agg #[.int k c, .int k d])).run P w = .ok (a == c && b == d) w := by
 have hag : ∀ w, (isAgg e).run P w = .ok false w := fun w => by simp [isAgg, run_underlying he]
 have h1 := fun w a b => run_equalIn_int (P := P) w dd e k kk a b he
 obtain ⟨i, hi⟩ := info_of_underlying he
 have hc : P.cellsOf e = 1 := by
  have h2 := closedN_run hs w
  rw [run_sizeOf w hi] at h2
  simpa using h2
 rw [run_equalIn_array w (dd + 1) _ _ hT hi, hc]
 simp [List.range, List.range.loop, Op.eqItems, part, hag, h1]
 by_cases h : a = c <;> by_cases h' : b = d <;> simp [h, h']
theorem bin_arr2 {P : Program} {w : World} {T e : TypeId} {k kk : IntKind} {a b c d : Int} {x y : Operand} (hT : closedD P (underlying T) = some (.array 2 e)) (hT2 : P.underlying T = some (.array 2 e)) (he : P.underlying e = some (.int kk)) (hs : closedN P (sizeOf e) = some 1) (hg : P.eqGuardType P.depth T = false) {r : Bool} (hr : (!(a == c && b == d)) = r) :
  (vS (do eqGuard .neq T x y (.agg #[.int k a, .int k b]) (.agg #[.int k c, .int k d]); binOp .neq T (.agg #[.int k a, .int k b]) (.agg #[.int k c, .int k d]))).run P w = .ok (.value (.bool r)) w := by
 subst hr
 refine vS_run ?_
 have h := eq_arr2 (P := P) (w := w) (k := k) (a := a) (b := b) (c := c) (d := d) (dd := 9998) hT2 he hs
 simp [run_eqGuard_agg w .neq T x y _ _ hg, run_neq_struct, h]
end Go.Vc
namespace Go.Vc
open Go
def rsz (s : Nat) (v : Value) (l h m : Nat) : Value := match v with
 | .slice a _ _ => .slice (if m = l then a else a.map (·.add (l * s))) (h - l) (m - l)
 | v => v
section
variable {w w' : World} {n : Nat} {v : Value} {xs : List Value} {size : Nat}
theorem RdV.capZ (h : RdV w size v n xs) : n ≤ capOf v := by
 rcases h with ⟨a, c, rfl, rfl, _⟩ | ⟨b, off, cap, rfl, _, h2, _⟩
 ·exact Nat.zero_le _
 ·exact h2
theorem RdV.cutZ (h : RdV w size v n xs) {l k m : Nat} (hl : l ≤ k) (hk : k ≤ n) (hm : k ≤ m) : RdV w size (rsz size v l k m) (k - l) ((xs.drop (l * size)).take ((k - l) * size)) := by
 rcases h with ⟨a, c, rfl, rfl, rfl⟩ | ⟨b, off, cap, rfl, h1, h2, h3⟩
 ·obtain rfl : k = 0 := by omega
  exact .inl ⟨_, _, by rw [rsz, Nat.zero_sub], by simp, by simp⟩
 ·by_cases hkl : k = l
  ·subst hkl
   exact .inl ⟨_, _, by rw [rsz, Nat.sub_self], by simp, by simp⟩
  ·refine .inr ⟨b, off + l * size, m - l, ?_, ?_, by omega, fun j u hu => ?_⟩
   ·have hne : m ≠ l := by omega
    simp only [rsz, if_neg hne, Option.map_some]
    have hadd : (⟨b, off, none⟩ : Addr).add (l * size) = ⟨b, off + l * size, none⟩ := addr_add b off (l * size)
    rw [hadd]
   ·have e1 : (k - l) * size ≤ (n - l) * size := Nat.mul_le_mul_right _ (by omega)
    rw [List.length_take, List.length_drop, h1, ← Nat.sub_mul]; omega
   ·rw [List.getElem?_take] at hu
    split at hu
    ·rw [List.getElem?_drop] at hu
     rw [show off + l * size + j = off + (l * size + j) by omega]
     exact h3 (l * size + j) u hu
    ·cases hu
theorem sl_z {P : Program} {w0 : World} {T e : TypeId} {l k : Nat} (lo hi : Option Value) (h : RdV w0 size v n xs) (hT : closedD P (underlying T) = some (.slice e)) (hs : closedN P (sizeOf e) = some size)
  (hlo : (lo = none ∧ l = 0) ∨ ∃ kd, lo = some (.int kd (l : Int))) (hhi : (hi = none ∧ k = n) ∨ ∃ kd, hi = some (.int kd (k : Int))) (hl : l ≤ k) (hk : k ≤ n) :
  (vS (Instr.sliceAt T v lo hi none)).run P w = .ok (.value (rsz size v l k (capOf v))) w := by
 have hc := h.capZ
 obtain ⟨a, c, rfl, hn⟩ : ∃ a c, v = .slice a n c ∧ n ≤ c := by
  rcases h with ⟨a, c, rfl, rfl, _⟩ | ⟨b, off, cap, rfl, _, h2, _⟩
  ·exact ⟨a, c, rfl, Nat.zero_le _⟩
  ·exact ⟨_, cap, rfl, h2⟩
 have hkc : k ≤ c := by omega
 refine vS_run ?_
 rcases hlo with ⟨rfl, rfl⟩ | ⟨kd, rfl⟩ <;> rcases hhi with ⟨rfl, rfl⟩ | ⟨kd', rfl⟩ <;>
  simp [Instr.sliceAt, Instr.slice, Instr.sliceBounds, Instr.sliceBound, asIntOf, closedD_run hT w, closedN_run hs w, hl, hk, hkc, hn, rsz, capOf]
 all_goals rfl
end
end Go.Vc
namespace Go.Vc
open Go
theorem upon_store_ownN {P : Program} {ops : Array Oper} {w : World} {n : Nat} {m : Fm} {i : Nat} {b off size cap len : Nat} {vs : List Value} {e : TypeId} {xs : List Value} {Post : Value → World → Prop} (ho : storeOf P ops n m i = some (b, off, vs)) (hO : OwnR w e size b cap len xs)
  (hlt : off + vs.length ≤ len * size) (hp : ∀ w', OwnR w' e size b cap len (setL xs off vs) → Ext [b] w w' → w'.heap.size = w.heap.size → Post undef w') : UponAt P ops n m i w Post := by
 obtain ⟨⟨cur, hb, hs, ht⟩, h1, h2, h3⟩ := hO
 have hm : len * size ≤ cap * size := Nat.mul_le_mul_right _ h1
 exact upon_store ho hb (by omega) (hp _ (OwnR.setN hb hs ht h1 h2 h3) ((Ext.refl [b] w).updIn (.inl (by simp)) _ _) upd_size)
end Go.Vc
namespace Go.Proofs.YtkkpghlcmcaoiaaDoor
open Go.Vc Go.Gm
theorem indexF_any {w : World} {g n cp : Nat} {bs : List Bool} (hg : OwnR w 4 1 g cp n (bls bs)) :
  Calls Tryd.prog 79 #[Sl g n cp, .bool false] w fun e w' => e = .returned (I6 (fF bs 0)) ∧ Ext [] w w' := by
 have hbl : bs.length = n := by have := hg.len; rw [bls_len] at this; omega
 have hmx := hg.max
 have hle := hg.le
 simp only [maxLen] at hmx
 refine cbd 19 [(0, Sl g n cp), (1, .bool false)] Tryd.func79 rfl fun a hS => ?_
 have hE0 : Ext [] w w := Ext.refl _ _
 refine sdq 1 [.p] [] [(4, I6 0)] [] hS .nil fun a hS => sq fun K2 hK2 => sdq 3 [.p, .p, .p] [] [(7, I6 n), (8, I6 0)] [] hS .nil fun a hS => wpIn_block ?_
 refine loop_ghost (fun (i : Nat) a' w' => St 19 [] [(0, Sl g n cp), (1, .bool false), (4, I6 0), (7, I6 n), (8, I6 i)] a' ∧ Ext [] w w' ∧ i ≤ n ∧ fF bs 0 = fF (bs.drop i) i) (fun (i : Nat) => n - i) 0 ⟨hS.keepTo [0, 1, 4, 7, 8] (by kernel_rfl), Ext.refl _ _, by omega, rfl⟩ ?_
 rintro i a wl4 ⟨hS, hXl4, hi, ha⟩
 have hB5 := hg.ext hXl4 (by simp)
 refine sdq 1 [.p] [] [(9, .bool (decide ((↑i : Int) < ↑n)))] [] hS .nil fun a hS => sq fun K7 hK7 => ?_
 refine cond_b hS rfl (fun hb8 => ?_) (fun hb8 => ?_)
 ·
  replace hb8 := of_decide_eq_true hb8
  refine wpIn_skip <| hK7 _ _ <| sq fun K9 hK9 => wpIn_block <| sdq 2 [.p, .p] [] [(5, I6 i)] [] hS .nil fun a hS => sq fun K11 hK11 => ?_
  rcases (show (bs[i]? = some true) ∨ (bs[i]? = some false) from bool_cases (by omega)) with h1 | h1
  ·
   rw [fF_step h1] at ha
   refine rgn 6 <| sd ww [.p, .p, .p, .run ((Po g (0 + i * 1))), .ld (.bool true), .p] [Rv (Instr.indexAt 31 (Sl g n cp) (I6 i)) ((Po g (0 + i * 1))) wl4, wl4.cell? ⟨g, 0 + i * 1, none⟩ = some (.bool true)] [(16, .bool false)] [] 6 0 hS (.c (ixs 4 1 i) (.c ((hB5).cellAt _ (bls_at h1)) .nil)) fun a hS => sge hK11 ?_
   refine cond_f hS rfl ?_
   refine wpIn_skip <| inBlock_normal <| hK9 _ _ <| rgn 2 <| sd ww [.as (I6 (↑i + 1)), .p] [_] [(8, I6 (↑i + 1))] [] 2 0 hS (as6 (↑i + 1)) fun a hS => seg_end ?_
   exact ⟨i + 1, ⟨hS.kp [(0, Sl g n cp), (1, .bool false), (4, I6 0), (7, I6 n), (8, I6 (↑i + 1))], hXl4, by omega, ha⟩, by omega⟩
  ·
   rw [fF_step h1] at ha
   have hEl4 : Ext [] w wl4 := hE0.trans0 hXl4
   refine rgn 6 <| sd ww [.p, .p, .p, .run ((Po g (0 + i * 1))), .ld (.bool false), .p] [Rv (Instr.indexAt 31 (Sl g n cp) (I6 i)) ((Po g (0 + i * 1))) wl4, wl4.cell? ⟨g, 0 + i * 1, none⟩ = some (.bool false)] [(16, .bool true)] [] 6 0 hS (.c (ixs 4 1 i) (.c ((hB5).cellAt _ (bls_at h1)) .nil)) fun a hS => sge hK11 ?_
   refine cond_t hS rfl ?_
   refine sdq 2 [.p, .p] [] [(4, I6 i)] [] hS .nil fun a hS => wpIn_ret <| inBlock_ret <| then_ret <| then_ret <| inBlock_ret <| then_ret ?_
   refine ret1 hS Tryd.results79 rfl ?_
   exact ⟨by rw [ha]; rfl, hEl4⟩
 ·
  replace hb8 := of_decide_eq_false hb8
  have hEl4 : Ext [] w wl4 := hE0.trans0 hXl4
  rw [List.drop_eq_nil_of_le (by omega)] at ha
  refine xt2 <| hK2 _ _ <| sdq 1 [.p] [] [(4, I6 (-1))] [] hS .nil fun a hS => wpIn_ret ?_
  refine ret1 hS Tryd.results79 rfl ?_
  exact ⟨by rw [ha]; rfl, hEl4⟩
theorem fixedT_any {w0 w : World} {S : Sp} (hG : SpOk w0 S) (hb : Ext [] w0 w) (hI : Ix S) {cp g sb fb : Nat} {bs : List Bool} (hsb : Blk w sb 26 S.ca) (hfb : Blk w fb 59 #[.func (.func 81) #[] #[]]) (hg : OwnR w 4 1 g cp S.ns.length (bls bs)) (hgn : w0.heap.size ≤ g) (hs : MdS S true bs) :
  Calls Tryd.prog 104 #[Sl g S.ns.length cp, .func (.func 105) #[] #[(Pv sb), (Pv fb)]] w fun e w' => ∃ bs', e = .returned (Sl g S.ns.length cp) ∧ OwnR w' 4 1 g cp S.ns.length (bls bs') ∧ IsD S.g true S.ns.length bs' ∧ Ext [g] w w' := by
 refine cbd 17 [(0, Sl g S.ns.length cp), (1, .func (.func 105) #[] #[(Pv sb), (Pv fb)])] Tryd.func104 rfl fun a hS => ?_
 have hE0 : Ext [g] w w := Ext.refl _ _
 refine sdq 1 [.p] [] [(4, .slice none 0 0)] [] hS .nil fun a hS => wpIn_block ?_
 have hbl2 := (hb.t1 hE0 hgn)
 refine loop_ghost (fun (bs1 : (List Bool)) a' w' => St 17 [] [(0, Sl g S.ns.length cp), (1, .func (.func 105) #[] #[(Pv sb), (Pv fb)])] a' ∧ Ext [g] w w' ∧ OwnR w' 4 1 g cp S.ns.length (bls bs1) ∧ MdS S true bs1) (fun (bs1 : (List Bool)) => falses bs1) bs ⟨hS.keepTo [0, 1] (by kernel_rfl), Ext.refl _ _, hg, hs⟩ ?_
 rintro bs1 a wl2 ⟨hS, hXl2, hg1, hs1⟩
 have hB3 := hsb.ext hXl2 (by simpa using (OwnR.ne_type hg hsb (by decide)).symm)
 have hB4 := hfb.ext hXl2 (by simpa using (OwnR.ne_type hg hfb (by decide)).symm)
 refine wpIn_block <| sq fun K5 hK5 => rgn 8 <| sd ww [.p, .p] [] [(8, .func (.func 105) #[] #[(Pv sb), (Pv fb)]), (9, Sl g S.ns.length cp)] [] 2 6 hS .nil fun a hS => eff_call ww (r := 5) (f := 105) (vs := [Sl g S.ns.length cp]) (cap := #[(Pv sb), (Pv fb)]) (d := (some 10)) hS (by kernel_rfl) Tryd.call105 #[Sl g S.ns.length cp, (Pv sb), (Pv fb)] (by kernel_rfl) (made1T_any hG (hbl2.t1 hXl2 hgn) hI hB3 hB4 hg1 hgn hs1) ?_
 rintro _ wc6 ⟨bs6, gr6, rfl, hO6, hP6, hEc6⟩
 refine ⟨_, rfl, fun a hS => ?_⟩
 have hE9 := hXl2.trans hEc6 (fun b hbM => by simp at hbM; rw [hbM]; exact .inl (by simp))
 refine sd ww [.p, .p, .p, .p, .p] [] [(5, Sl g S.ns.length cp), (6, .bool gr6)] [] 8 0 hS .nil fun a hS => sge hK5 <| sq fun K10 hK10 => sdq 2 [.p, .p] [] [(14, .bool (!gr6))] [] hS .nil fun a hS => ?_
 refine cond_b hS rfl (fun hb12 => ?_) (fun hb12 => ?_)
 ·
  replace hb12 := hb12
  have hgr : gr6 = false := by simpa using hb12
  have hEl2 : Ext [g] w wc6 := hE0.trans hE9 (fun b hbM => by simp at hbM; rw [hbM]; exact .inl (by simp))
  refine sdq 2 [.p, .p] [] [(4, Sl g S.ns.length cp)] [] hS .nil fun a hS => wpIn_ret <| then_ret <| inBlock_ret <| then_ret <| inBlock_ret ?_
  refine ret1 hS Tryd.results104 rfl ?_
  exact ⟨_, rfl, hO6, MdP.isD hP6.snd fun j hj => (hP6.cl hgr).2 j hj, hEl2⟩
 ·
  replace hb12 := hb12
  have hgr : gr6 = true := by simpa using hb12
  refine wpIn_skip <| hK10 _ _ <| rgn 2 <| sd ww [.p, .p] [] [] [] 2 0 hS .nil fun a hS => seg_end <| inBlock_normal ?_
  exact ⟨bs6, ⟨hS.kp [(0, Sl g S.ns.length cp), (1, .func (.func 105) #[] #[(Pv sb), (Pv fb)])], hE9, hO6, hP6.snd⟩, hP6.lt hgr⟩
theorem madeT_any {w0 w : World} {S : Sp} (hG : SpOk w0 S) (hb : Ext [] w0 w) (hI : Ix S) :
  Calls Tryd.prog 80 #[.agg S.ca, .func (.func 81) #[] #[]] w fun e w' => ∃ g bs, e = .returned (Sn S g) ∧ OwnR w' 4 1 g S.ns.length S.ns.length (bls bs) ∧ IsD S.g true S.ns.length bs ∧ w.heap.size ≤ g ∧ Ext [] w w' := by
 have hlmax := hG.lmax
 have hnmax := hG.nmax
 have hpmax := hG.pmax
 refine cbd 11 [(0, .agg S.ca), (1, .func (.func 81) #[] #[])] Tryd.func80 rfl fun a hS => ?_
 have hE0 : Ext [] w w := Ext.refl _ _
 refine sq fun K1 hK1 => rgn 3 <| ebx 2 S.ca 26 (some 2) hS fun a w2 hw3 hS => ?_
 have hB4 := Blk.nw hw3
 have hs5 := hE0.size
 have hE6 := hE0.al hw3
 refine ebx 1 #[.func (.func 81) #[] #[]] 59 (some 3) hS fun a w7 hw8 hS => ?_
 have hB10 := Blk.at' hw8 (hB4.alloc _)
 have hB11 := Blk.nw hw8
 have hs12 := hE6.size
 have hE13 := hE6.al hw8
 refine sd ww [.p] [] [(4, .slice none 0 0)] [] 3 0 hS .nil fun a hS => sge hK1 <| sq fun K14 hK14 => rgn 7 <| sd ww [.p, .ld (S.nv), .run (I6 S.ns.length)] [_, Rv (Builtin.len_ #[23] 3 #[S.nv]) (I6 S.ns.length) w7] [(7, I6 S.ns.length)] [] 3 4 hS (hB10.k 1 (.c (rlr 9 hG.names) .nil)) fun a hS => ?_
 obtain ⟨wm15, hrm15, hOm15, hEm15, hsm15⟩ := make_full (P := Tryd.prog) (w := w7) (T := 31) (E := 4) (size := 1) (bytes := 1) (z := #[.bool false]) (Value.bool false) (l := S.ns.length) (by kernel_rfl) (by kernel_rfl) (by rfl) (by omega) (by omega) (by omega)
 refine eff_run ww (r := 3) (s := vS (Instr.makeSlice 31 (I6 S.ns.length) (I6 S.ns.length))) (d := (some 8)) (v := Sn S w7.heap.size) hS (by kernel_rfl) hrm15 fun a hS => ?_
 have hB18 := hB10.ext hEm15 (by simp)
 have hB19 := hB11.ext hEm15 (by simp)
 have hE20 := hE13.trans0 hEm15
 refine sd ww [.p] [] [(9, .func (.func 105) #[] #[(Pv w.heap.size), (Pv w2.heap.size)])] [] 5 2 hS .nil fun a hS => ?_
 have hg0 := hOm15
 rw [MdS.rep S true] at hg0
 have hgn : w0.heap.size ≤ w7.heap.size := Nat.le_trans hb.size hE13.size
 refine ecl 1 (some 10) hS Tryd.call104 #[Sn S w7.heap.size, .func (.func 105) #[] #[(Pv w.heap.size), (Pv w2.heap.size)]] (fixedT_any hG (hb.trans0 hE20) hI hB18 hB19 hg0 hgn (MdS.start S true)) ?_
 rintro _ wc21 ⟨bs21, rfl, hO21, hD21, hEc21⟩
 refine ⟨_, rfl, fun a hS => ?_⟩
 have hE24 := hE20.trans hEc21 (fun b hbM => by simp at hbM; rw [hbM]; exact .inr hE13.size)
 refine sd ww [.p] [] [(4, Sn S w7.heap.size)] [] 7 0 hS .nil fun a hS => sge hK14 <| wpIn_ret ?_
 refine ret1 hS Tryd.results80 rfl ?_
 exact ⟨_, _, rfl, hO21, hD21, hE13.size, hE24⟩
theorem fixedF_any {w0 w : World} {S : Sp} (hG : SpOk w0 S) (hb : Ext [] w0 w) (hI : Ix S) {cp g sb fb : Nat} {bs : List Bool} (hsb : Blk w sb 26 S.ca) (hfb : Blk w fb 59 #[.func (.func 89) #[] #[]]) (hg : OwnR w 4 1 g cp S.ns.length (bls bs)) (hgn : w0.heap.size ≤ g) (hs : MdS S false bs) :
  Calls Tryd.prog 104 #[Sl g S.ns.length cp, .func (.func 105) #[] #[(Pv sb), (Pv fb)]] w fun e w' => ∃ bs', e = .returned (Sl g S.ns.length cp) ∧ OwnR w' 4 1 g cp S.ns.length (bls bs') ∧ IsD S.g false S.ns.length bs' ∧ Ext [g] w w' := by
 refine cbd 17 [(0, Sl g S.ns.length cp), (1, .func (.func 105) #[] #[(Pv sb), (Pv fb)])] Tryd.func104 rfl fun a hS => ?_
 have hE0 : Ext [g] w w := Ext.refl _ _
 refine sdq 1 [.p] [] [(4, .slice none 0 0)] [] hS .nil fun a hS => wpIn_block ?_
 have hbl2 := (hb.t1 hE0 hgn)
 refine loop_ghost (fun (bs1 : (List Bool)) a' w' => St 17 [] [(0, Sl g S.ns.length cp), (1, .func (.func 105) #[] #[(Pv sb), (Pv fb)])] a' ∧ Ext [g] w w' ∧ OwnR w' 4 1 g cp S.ns.length (bls bs1) ∧ MdS S false bs1) (fun (bs1 : (List Bool)) => falses bs1) bs ⟨hS.keepTo [0, 1] (by kernel_rfl), Ext.refl _ _, hg, hs⟩ ?_
 rintro bs1 a wl2 ⟨hS, hXl2, hg1, hs1⟩
 have hB3 := hsb.ext hXl2 (by simpa using (OwnR.ne_type hg hsb (by decide)).symm)
 have hB4 := hfb.ext hXl2 (by simpa using (OwnR.ne_type hg hfb (by decide)).symm)
 refine wpIn_block <| sq fun K5 hK5 => rgn 8 <| sd ww [.p, .p] [] [(8, .func (.func 105) #[] #[(Pv sb), (Pv fb)]), (9, Sl g S.ns.length cp)] [] 2 6 hS .nil fun a hS => eff_call ww (r := 5) (f := 105) (vs := [Sl g S.ns.length cp]) (cap := #[(Pv sb), (Pv fb)]) (d := (some 10)) hS (by kernel_rfl) Tryd.call105 #[Sl g S.ns.length cp, (Pv sb), (Pv fb)] (by kernel_rfl) (made1F_any hG (hbl2.t1 hXl2 hgn) hI hB3 hB4 hg1 hgn hs1) ?_
 rintro _ wc6 ⟨bs6, gr6, rfl, hO6, hP6, hEc6⟩
 refine ⟨_, rfl, fun a hS => ?_⟩
 have hE9 := hXl2.trans hEc6 (fun b hbM => by simp at hbM; rw [hbM]; exact .inl (by simp))
 refine sd ww [.p, .p, .p, .p, .p] [] [(5, Sl g S.ns.length cp), (6, .bool gr6)] [] 8 0 hS .nil fun a hS => sge hK5 <| sq fun K10 hK10 => sdq 2 [.p, .p] [] [(14, .bool (!gr6))] [] hS .nil fun a hS => ?_
 refine cond_b hS rfl (fun hb12 => ?_) (fun hb12 => ?_)
 ·
  replace hb12 := hb12
  have hgr : gr6 = false := by simpa using hb12
  have hEl2 : Ext [g] w wc6 := hE0.trans hE9 (fun b hbM => by simp at hbM; rw [hbM]; exact .inl (by simp))
  refine sdq 2 [.p, .p] [] [(4, Sl g S.ns.length cp)] [] hS .nil fun a hS => wpIn_ret <| then_ret <| inBlock_ret <| then_ret <| inBlock_ret ?_
  refine ret1 hS Tryd.results104 rfl ?_
  exact ⟨_, rfl, hO6, MdP.isD hP6.snd fun j hj => (hP6.cl hgr).2 j hj, hEl2⟩
 ·
  replace hb12 := hb12
  have hgr : gr6 = true := by simpa using hb12
  refine wpIn_skip <| hK10 _ _ <| rgn 2 <| sd ww [.p, .p] [] [] [] 2 0 hS .nil fun a hS => seg_end <| inBlock_normal ?_
  exact ⟨bs6, ⟨hS.kp [(0, Sl g S.ns.length cp), (1, .func (.func 105) #[] #[(Pv sb), (Pv fb)])], hE9, hO6, hP6.snd⟩, hP6.lt hgr⟩
theorem madeF_any {w0 w : World} {S : Sp} (hG : SpOk w0 S) (hb : Ext [] w0 w) (hI : Ix S) :
  Calls Tryd.prog 80 #[.agg S.ca, .func (.func 89) #[] #[]] w fun e w' => ∃ g bs, e = .returned (Sn S g) ∧ OwnR w' 4 1 g S.ns.length S.ns.length (bls bs) ∧ IsD S.g false S.ns.length bs ∧ w.heap.size ≤ g ∧ Ext [] w w' := by
 have hlmax := hG.lmax
 have hnmax := hG.nmax
 have hpmax := hG.pmax
 refine cbd 11 [(0, .agg S.ca), (1, .func (.func 89) #[] #[])] Tryd.func80 rfl fun a hS => ?_
 have hE0 : Ext [] w w := Ext.refl _ _
 refine sq fun K1 hK1 => rgn 3 <| ebx 2 S.ca 26 (some 2) hS fun a w2 hw3 hS => ?_
 have hB4 := Blk.nw hw3
 have hs5 := hE0.size
 have hE6 := hE0.al hw3
 refine ebx 1 #[.func (.func 89) #[] #[]] 59 (some 3) hS fun a w7 hw8 hS => ?_
 have hB10 := Blk.at' hw8 (hB4.alloc _)
 have hB11 := Blk.nw hw8
 have hs12 := hE6.size
 have hE13 := hE6.al hw8
 refine sd ww [.p] [] [(4, .slice none 0 0)] [] 3 0 hS .nil fun a hS => sge hK1 <| sq fun K14 hK14 => rgn 7 <| sd ww [.p, .ld (S.nv), .run (I6 S.ns.length)] [_, Rv (Builtin.len_ #[23] 3 #[S.nv]) (I6 S.ns.length) w7] [(7, I6 S.ns.length)] [] 3 4 hS (hB10.k 1 (.c (rlr 9 hG.names) .nil)) fun a hS => ?_
 obtain ⟨wm15, hrm15, hOm15, hEm15, hsm15⟩ := make_full (P := Tryd.prog) (w := w7) (T := 31) (E := 4) (size := 1) (bytes := 1) (z := #[.bool false]) (Value.bool false) (l := S.ns.length) (by kernel_rfl) (by kernel_rfl) (by rfl) (by omega) (by omega) (by omega)
 refine eff_run ww (r := 3) (s := vS (Instr.makeSlice 31 (I6 S.ns.length) (I6 S.ns.length))) (d := (some 8)) (v := Sn S w7.heap.size) hS (by kernel_rfl) hrm15 fun a hS => ?_
 have hB18 := hB10.ext hEm15 (by simp)
 have hB19 := hB11.ext hEm15 (by simp)
 have hE20 := hE13.trans0 hEm15
 refine sd ww [.p] [] [(9, .func (.func 105) #[] #[(Pv w.heap.size), (Pv w2.heap.size)])] [] 5 2 hS .nil fun a hS => ?_
 have hg0 := hOm15
 rw [MdS.rep S false] at hg0
 have hgn : w0.heap.size ≤ w7.heap.size := Nat.le_trans hb.size hE13.size
 refine ecl 1 (some 10) hS Tryd.call104 #[Sn S w7.heap.size, .func (.func 105) #[] #[(Pv w.heap.size), (Pv w2.heap.size)]] (fixedF_any hG (hb.trans0 hE20) hI hB18 hB19 hg0 hgn (MdS.start S false)) ?_
 rintro _ wc21 ⟨bs21, rfl, hO21, hD21, hEc21⟩
 refine ⟨_, rfl, fun a hS => ?_⟩
 have hE24 := hE20.trans hEc21 (fun b hbM => by simp at hbM; rw [hbM]; exact .inr hE13.size)
 refine sd ww [.p] [] [(4, Sn S w7.heap.size)] [] 7 0 hS .nil fun a hS => sge hK14 <| wpIn_ret ?_
 refine ret1 hS Tryd.results80 rfl ?_
 exact ⟨_, _, rfl, hO21, hD21, hE13.size, hE24⟩
theorem nullable_any {w0 w : World} {S : Sp} (hG : SpOk w0 S) (hb : Ext [] w0 w) (hI : Ix S) :
  Calls Tryd.prog 52 #[.agg S.ca] w fun e w' => ∃ g bs, e = .returned (Sn S g) ∧ OwnR w' 4 1 g S.ns.length S.ns.length (bls bs) ∧ IsD S.g false S.ns.length bs ∧ w.heap.size ≤ g ∧ Ext [] w w' := by
 refine cbd 5 [(0, .agg S.ca)] Tryd.func52 rfl fun a hS => ?_
 have hE0 : Ext [] w w := Ext.refl _ _
 refine sq fun K1 hK1 => rgn 2 <| ebx 1 S.ca 26 (some 1) hS fun a w2 hw3 hS => ?_
 have hB4 := Blk.nw hw3
 have hs5 := hE0.size
 have hE6 := hE0.al hw3
 refine sd ww [.p] [] [(2, .slice none 0 0)] [] 2 0 hS .nil fun a hS => sge hK1 <| sq fun K7 hK7 => rgn 3 <| sd ww [.lds [S.lv, S.nv, I6 S.st, S.pv]] [_, _, _, _] [(3, .agg S.ca)] [] 1 2 hS (hB4.k 0 (hB4.k 1 (hB4.k 2 (hB4.k 3 .nil)))) fun a hS => ecl 1 (some 4) hS Tryd.call80 #[.agg S.ca, .func (.func 89) #[] #[]] (madeF_any hG (hb.trans0 hE6) hI) ?_
 rintro _ wc8 ⟨g8, bs8, rfl, hO8, hD8, hgn8, hEc8⟩
 refine ⟨_, rfl, fun a hS => ?_⟩
 have hE10 := hE6.trans0 hEc8
 refine sd ww [.p] [] [(2, Sn S g8)] [] 3 0 hS .nil fun a hS => sge hK7 <| wpIn_ret ?_
 refine ret1 hS Tryd.results52 rfl ?_
 exact ⟨_, _, rfl, hO8, hD8, Nat.le_trans hE6.size hgn8, hE10⟩
end Go.Proofs.YtkkpghlcmcaoiaaDoor
