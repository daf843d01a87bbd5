import Derived.Test.YtpglmeeledmkoaaProg
import Derived.Test.YtpglmeeledmkoaaVc
import Derived.Test.YtpglmeeledmkoaaT8
namespace Go.Proofs.Ytpglmeeledmkoaa
open Go.Vc

theorem tt_node {b : Nat} {num kd nn lk ls ll lr : Int} {ks : Value} {wd lf tt : Int} {fl : Bool} {kids : List Tr} : (Tr.node b num kd nn lk ls ll lr ks wd lf tt fl kids).tt = tt := rfl
def rnd (k n : Int) : Int := if k.tmod n < 0 then k.tmod n + n else k.tmod n
theorem rnd_bd (k : Int) {n : Int} (hn : 0 < n) : 0 ≤ rnd k n ∧ rnd k n < n := by
  have := tmod_bd k hn
  unfold rnd; split <;> omega

theorem Round_any {k n : Int} {w : World} (hn : 0 < n ∧ n ≤ 9223372036854775807) :
    Calls Try.prog 24 #[.int .i64 k, .int .i64 n] w fun e w' => e = .returned (.int .i64 (rnd k n)) ∧ w' = w := by
  have hb := tmod_bd k hn.1
  have hr : rnd k n = if k.tmod n < 0 then k.tmod n + n else k.tmod n := rfl
  have hrem := fun (a b : Operand) (w : World) => bin_rem (P := Try.prog) (w := w) (T := 3) (a := a) (b := b) (x := k) (y := n) (by omega)
  rw [hr]
  generalize k.tmod n = m at hb hrem
  refine calls_body 14 [(0, .int .i64 k), (1, .int .i64 n)] Try.func24 rfl (by kernel_rfl) (by kernel_rfl) (by kernel_rfl) fun a hS => ?_
  refine wpIn_seq_k fun K1 hK1 => ?_
  refine region 1 (by kernel_rfl) ?_
  refine seg wide_wide [.p] [0, 1, 4] [] [(0, .int .i64 k), (1, .int .i64 n), (4, .int .i64 0)] 1 0 hS (by kernel_rfl) (by kernel_rfl) (by kernel_rfl) .nil fun a hS => ?_
  refine seg_end ?_
  refine hK1 _ _ ?_
  refine wpIn_seq_k fun K2 hK2 => ?_
  refine region 4 (by kernel_rfl) ?_
  refine seg wide_wide [.p, .p, .run (.int .i64 m), .p] [0, 1, 4] [Sem.run Try.prog (vS (do eqGuard .rem 3 (.tmp 5) (.tmp 6) (.int .i64 k) (.int .i64 n); binOp .rem 3 (.int .i64 k) (.int .i64 n))) w = .ok (.value (.int .i64 m)) w] [(0, .int .i64 m), (1, .int .i64 n), (4, .int .i64 0)] 4 0 hS (by kernel_rfl) (by kernel_rfl) (by kernel_rfl) (.cons (hrem _ _ _) .nil) fun a hS => ?_
  refine seg_end ?_
  refine hK2 _ _ ?_
  refine wpIn_seq_k fun K3 hK3 => ?_
  refine wpIn_seq_k fun K4 hK4 => ?_
  refine region 2 (by kernel_rfl) ?_
  refine seg wide_wide [.p, .p] [0, 1, 4, 9] [] [(0, .int .i64 m), (1, .int .i64 n), (4, .int .i64 0), (9, .bool (decide ((m : Int) < 0)))] 2 0 hS (by kernel_rfl) (by kernel_rfl) (by kernel_rfl) .nil fun a hS => ?_
  refine seg_end ?_
  refine hK4 _ _ ?_
  refine cond_b hS rfl (fun hb5 => ?_) (fun hb5 => ?_)
  · -- decide ((m : Int) < 0) is true
    replace hb5 := of_decide_eq_true hb5
    refine region 4 (by kernel_rfl) ?_
    refine seg wide_wide [.p, .p, .as (.int .i64 (m + n)), .p] [0, 1, 4] [Value.int .i64 (IntKind.i64.wrap (m + n)) = .int .i64 (m + n)] [(0, .int .i64 (m + n)), (1, .int .i64 n), (4, .int .i64 0)] 4 0 hS (by kernel_rfl) (by kernel_rfl) (by kernel_rfl) (.cons (as_i64 (by omega)) .nil) fun a hS => ?_
    refine seg_end ?_
    refine hK3 _ _ ?_
    refine wpIn_seq_k fun K6 hK6 => ?_
    refine region 2 (by kernel_rfl) ?_
    refine seg wide_wide [.p, .p] [0, 1, 4] [] [(0, .int .i64 (m + n)), (1, .int .i64 n), (4, .int .i64 (m + n))] 2 0 hS (by kernel_rfl) (by kernel_rfl) (by kernel_rfl) .nil fun a hS => ?_
    refine seg_end ?_
    refine hK6 _ _ ?_
    refine wpIn_ret ?_
    refine ret1 hS Try.results24 rfl ?_
    exact ⟨by rw [if_pos hb5], rfl⟩
  · -- decide ((m : Int) < 0) is false
    replace hb5 := of_decide_eq_false hb5
    refine wpIn_skip ?_
    refine hK3 _ _ ?_
    refine wpIn_seq_k fun K7 hK7 => ?_
    refine region 2 (by kernel_rfl) ?_
    refine seg wide_wide [.p, .p] [0, 1, 4] [] [(0, .int .i64 m), (1, .int .i64 n), (4, .int .i64 m)] 2 0 hS (by kernel_rfl) (by kernel_rfl) (by kernel_rfl) .nil fun a hS => ?_
    refine seg_end ?_
    refine hK7 _ _ ?_
    refine wpIn_ret ?_
    refine ret1 hS Try.results24 rfl ?_
    exact ⟨by rw [if_neg (by omega)], rfl⟩

set_option maxHeartbeats 2000000 in
theorem Full_any (lk ls ll lr extra : Int) (w : World) :
    Calls Try.prog 5 #[.agg #[.int .i64 lk, .int .i64 ls, .int .i64 ll, .int .i64 lr], .int .i64 extra] w fun e w' => e = .returned (.bool true) ∧ Ext [] w w' := by
  have hb1 := bt_bd ls
  have hb2 := bt_bd ll
  have hrb := rnd_bd extra (n := 1000) (by omega)
  refine calls_body 137 [(0, .agg #[.int .i64 lk, .int .i64 ls, .int .i64 ll, .int .i64 lr]), (1, .int .i64 extra)] Try.func5 rfl (by kernel_rfl) (by kernel_rfl) (by kernel_rfl) fun a hS => ?_
  have hE0 : Ext [] w w := Ext.refl _ _
  refine wpIn_seq_k fun K1 hK1 => ?_
  refine region 2 (by kernel_rfl) ?_
  refine eff_box wide_wide (r := 1) (cs := #[.int .i64 lk, .int .i64 ls, .int .i64 ll, .int .i64 lr]) (T := 38) (d := (some 2)) hS (by kernel_rfl) fun a w2 hw3 hS => ?_
  have hB4 : Blk w2 (w.heap.size) 38 #[.int .i64 lk, .int .i64 ls, .int .i64 ll, .int .i64 lr] := by rw [hw3]; exact Blk.new _ _ _
  have hs5 : w.heap.size ≤ w.heap.size := hE0.size
  have hE6 : Ext [] w w2 := by rw [hw3]; exact hE0.alloc _
  refine seg wide_wide [.p] [0, 1, 2, 4] [] [(0, .agg #[.int .i64 lk, .int .i64 ls, .int .i64 ll, .int .i64 lr]), (1, .int .i64 extra), (2, .pointer (some ⟨w.heap.size, 0, none⟩)), (4, .bool false)] 2 0 hS (by kernel_rfl) (by kernel_rfl) (by kernel_rfl) .nil fun a hS => ?_
  refine seg_end ?_
  refine hK1 _ _ ?_
  refine wpIn_seq_k fun K7 hK7 => ?_
  refine region 2 (by kernel_rfl) ?_
  refine eff_call wide_wide (r := 1) (f := 16) (vs := []) (cap := #[]) (d := (some 15)) hS (by kernel_rfl) Try.call16 #[] (by kernel_rfl) (New_any w2) ?_
  rintro _ w1 ⟨rfl, hw8⟩
  refine ⟨_, rfl, fun a hS => ?_⟩
  have hEn : Ext [] w2 w1 := by rw [hw8]; exact (Ext.refl _ _).alloc _
  have hBs : Blk w1 w2.heap.size 102 #[.int .i64 0] := by rw [hw8]; exact Blk.new _ _ _
  have hnsb : w.heap.size ≤ w2.heap.size := hE6.size
  have hE1 := hE6.trans0 hEn
  have hB9 : Blk w1 w.heap.size 38 (#[.int .i64 lk, .int .i64 ls, .int .i64 ll, .int .i64 lr]) := hB4.ext hEn (by simp)
  generalize w2.heap.size = sb at hS hBs hnsb
  refine seg wide_wide [.p] [0, 1, 2, 4, 5] [] [(0, .agg #[.int .i64 lk, .int .i64 ls, .int .i64 ll, .int .i64 lr]), (1, .int .i64 extra), (2, .pointer (some ⟨w.heap.size, 0, none⟩)), (4, .bool false), (5, .pointer (some ⟨sb, 0, none⟩))] 2 0 hS (by kernel_rfl) (by kernel_rfl) (by kernel_rfl) .nil fun a hS => ?_
  refine seg_end ?_
  refine hK7 _ _ ?_
  refine wpIn_seq_k fun K10 hK10 => ?_
  refine wpIn_seq_k fun K11 hK11 => ?_
  refine region 6 (by kernel_rfl) ?_
  refine seg wide_wide [.p, .p, .p] [0, 1, 2, 4, 5, 18] [] [(0, .agg #[.int .i64 lk, .int .i64 ls, .int .i64 ll, .int .i64 lr]), (1, .int .i64 extra), (2, .pointer (some ⟨w.heap.size, 0, none⟩)), (4, .bool false), (5, .pointer (some ⟨sb, 0, none⟩)), (18, .bool false)] 3 3 hS (by kernel_rfl) (by kernel_rfl) (by kernel_rfl) .nil fun a hS => ?_
  refine eff_call wide_wide (r := 2) (f := 17) (vs := []) (cap := #[]) (d := (some 19)) hS (by kernel_rfl) Try.call17 #[] (by kernel_rfl) (Head_any w1) ?_
  rintro _ w2 ⟨rfl, hEh⟩
  refine ⟨_, rfl, fun a hS => ?_⟩
  have hE12 := hE1.trans0 hEh
  have hB13 : Blk w2 w.heap.size 38 (#[.int .i64 lk, .int .i64 ls, .int .i64 ll, .int .i64 lr]) := hB9.ext hEh (by simp)
  have hB14 : Blk w2 sb 102 (#[.int .i64 0]) := hBs.ext hEh (by simp)
  refine seg wide_wide [.p, .p] [0, 1, 2, 4, 5, 21] [] [(0, .agg #[.int .i64 lk, .int .i64 ls, .int .i64 ll, .int .i64 lr]), (1, .int .i64 extra), (2, .pointer (some ⟨w.heap.size, 0, none⟩)), (4, .bool false), (5, .pointer (some ⟨sb, 0, none⟩)), (21, .bool false)] 6 0 hS (by kernel_rfl) (by kernel_rfl) (by kernel_rfl) .nil fun a hS => ?_
  refine seg_end ?_
  refine hK11 _ _ ?_
  refine cond_f hS rfl ?_
  refine wpIn_skip ?_
  refine hK10 _ _ ?_
  refine wpIn_seq_k fun K15 hK15 => ?_
  refine region 4 (by kernel_rfl) ?_
  refine seg wide_wide [.p, .lds [.int .i64 lk, .int .i64 ls, .int .i64 ll, .int .i64 lr]] [0, 1, 2, 4, 5, 21, 22, 23] [w2.cell? ⟨w.heap.size, 0, none⟩ = some (.int .i64 lk), w2.cell? ⟨w.heap.size, 1, none⟩ = some (.int .i64 ls), w2.cell? ⟨w.heap.size, 2, none⟩ = some (.int .i64 ll), w2.cell? ⟨w.heap.size, 3, none⟩ = some (.int .i64 lr)] [(0, .agg #[.int .i64 lk, .int .i64 ls, .int .i64 ll, .int .i64 lr]), (1, .int .i64 extra), (2, .pointer (some ⟨w.heap.size, 0, none⟩)), (4, .bool false), (5, .pointer (some ⟨sb, 0, none⟩)), (21, .bool false), (22, .pointer (some ⟨sb, 0, none⟩)), (23, .agg #[.int .i64 lk, .int .i64 ls, .int .i64 ll, .int .i64 lr])] 2 2 hS (by kernel_rfl) (by kernel_rfl) (by kernel_rfl) (.cons (hB13.cell 0 rfl) (.cons (hB13.cell 1 rfl) (.cons (hB13.cell 2 rfl) (.cons (hB13.cell 3 rfl) .nil)))) fun a hS => ?_
  refine eff_call wide_wide (r := 1) (f := 18) (vs := [.pointer (some ⟨sb, 0, none⟩), .agg #[.int .i64 lk, .int .i64 ls, .int .i64 ll, .int .i64 lr]]) (cap := #[]) (d := (some 24)) hS (by kernel_rfl) Try.call18 #[.pointer (some ⟨sb, 0, none⟩), .agg #[.int .i64 lk, .int .i64 ls, .int .i64 ll, .int .i64 lr]] (by kernel_rfl) (Leaf_tr hB14 (by omega)) ?_
  rintro _ w3 ⟨na, rfl, hna, hoka, hBs3, hE23⟩
  refine ⟨_, rfl, fun a hS => ?_⟩
  have hE3 : Ext [] w w3 := hE12.trans hE23 (fun b hb => by simp at hb; subst hb; exact .inr hnsb)
  have hNa : Blk w3 na 106 #[.pointer (some ⟨sb, 0, none⟩), .int .i64 (0 + 1), .int .i64 1, .int .i64 lk, .int .i64 lk, .int .i64 ls, .int .i64 ll, .int .i64 lr, .slice none 0 0, .int .i64 (bt ls + bt ll), .int .i64 1, .int .i64 1, .bool (lk == -1)] := hoka.blk
  refine seg wide_wide [.p] [0, 1, 2, 4, 5, 21, 6] [] [(0, .agg #[.int .i64 lk, .int .i64 ls, .int .i64 ll, .int .i64 lr]), (1, .int .i64 extra), (2, .pointer (some ⟨w.heap.size, 0, none⟩)), (4, .bool false), (5, .pointer (some ⟨sb, 0, none⟩)), (21, .bool false), (6, .pointer (some ⟨na, 0, none⟩))] 4 0 hS (by kernel_rfl) (by kernel_rfl) (by kernel_rfl) .nil fun a hS => ?_
  refine seg_end ?_
  refine hK15 _ _ ?_
  refine wpIn_seq_k fun K16 hK16 => ?_
  refine wpIn_seq_k fun K17 hK17 => ?_
  refine region 2 (by kernel_rfl) ?_
  refine seg wide_wide [.p, .p] [0, 1, 2, 4, 5, 21, 6, 26] [] [(0, .agg #[.int .i64 lk, .int .i64 ls, .int .i64 ll, .int .i64 lr]), (1, .int .i64 extra), (2, .pointer (some ⟨w.heap.size, 0, none⟩)), (4, .bool false), (5, .pointer (some ⟨sb, 0, none⟩)), (21, .bool false), (6, .pointer (some ⟨na, 0, none⟩)), (26, .bool false)] 2 0 hS (by kernel_rfl) (by kernel_rfl) (by kernel_rfl) .nil fun a hS => ?_
  refine seg_end ?_
  refine hK17 _ _ ?_
  refine cond_f hS rfl ?_
  refine wpIn_skip ?_
  refine hK16 _ _ ?_
  refine wpIn_seq_k fun K18 hK18 => ?_
  refine region 1 (by kernel_rfl) ?_
  refine seg wide_wide [.p] [0, 1, 2, 4, 5, 21, 6, 26, 7] [] [(0, .agg #[.int .i64 lk, .int .i64 ls, .int .i64 ll, .int .i64 lr]), (1, .int .i64 extra), (2, .pointer (some ⟨w.heap.size, 0, none⟩)), (4, .bool false), (5, .pointer (some ⟨sb, 0, none⟩)), (21, .bool false), (6, .pointer (some ⟨na, 0, none⟩)), (26, .bool false), (7, .int .i64 1)] 1 0 hS (by kernel_rfl) (by kernel_rfl) (by kernel_rfl) .nil fun a hS => ?_
  refine seg_end ?_
  refine hK18 _ _ ?_
  refine wpIn_seq_k fun K19 hK19 => ?_
  refine region 1 (by kernel_rfl) ?_
  refine seg wide_wide [.p] [0, 1, 2, 4, 5, 21, 6, 26, 7, 8] [] [(0, .agg #[.int .i64 lk, .int .i64 ls, .int .i64 ll, .int .i64 lr]), (1, .int .i64 extra), (2, .pointer (some ⟨w.heap.size, 0, none⟩)), (4, .bool false), (5, .pointer (some ⟨sb, 0, none⟩)), (21, .bool false), (6, .pointer (some ⟨na, 0, none⟩)), (26, .bool false), (7, .int .i64 1), (8, .int .i64 1)] 1 0 hS (by kernel_rfl) (by kernel_rfl) (by kernel_rfl) .nil fun a hS => ?_
  refine seg_end ?_
  refine hK19 _ _ ?_
  refine wpIn_seq_k fun K20 hK20 => ?_
  refine region 3 (by kernel_rfl) ?_
  refine seg wide_wide [.p] [0, 1, 2, 4, 5, 21, 6, 26, 7, 8, 27] [] [(0, .agg #[.int .i64 lk, .int .i64 ls, .int .i64 ll, .int .i64 lr]), (1, .int .i64 extra), (2, .pointer (some ⟨w.heap.size, 0, none⟩)), (4, .bool false), (5, .pointer (some ⟨sb, 0, none⟩)), (21, .bool false), (6, .pointer (some ⟨na, 0, none⟩)), (26, .bool false), (7, .int .i64 1), (8, .int .i64 1), (27, .pointer (some ⟨na, 0, none⟩))] 1 2 hS (by kernel_rfl) (by kernel_rfl) (by kernel_rfl) .nil fun a hS => ?_
  refine eff_call_ro wide_wide (r := 1) (f := 19) (vs := [.pointer (some ⟨na, 0, none⟩)]) (cap := #[]) (d := (some 28)) (v := Value.int .i64 (bt ls + bt ll)) hS (by kernel_rfl) Try.call19 #[.pointer (some ⟨na, 0, none⟩)] (by kernel_rfl) (Width_any hNa) fun a hS => ?_
  refine seg wide_wide [.p] [0, 1, 2, 4, 5, 21, 6, 26, 7, 8, 9] [] [(0, .agg #[.int .i64 lk, .int .i64 ls, .int .i64 ll, .int .i64 lr]), (1, .int .i64 extra), (2, .pointer (some ⟨w.heap.size, 0, none⟩)), (4, .bool false), (5, .pointer (some ⟨sb, 0, none⟩)), (21, .bool false), (6, .pointer (some ⟨na, 0, none⟩)), (26, .bool false), (7, .int .i64 1), (8, .int .i64 1), (9, .int .i64 (bt ls + bt ll))] 3 0 hS (by kernel_rfl) (by kernel_rfl) (by kernel_rfl) .nil fun a hS => ?_
  refine seg_end ?_
  refine hK20 _ _ ?_
  refine wpIn_seq_k fun K21 hK21 => ?_
  refine wpIn_seq_k fun K22 hK22 => ?_
  refine region 6 (by kernel_rfl) ?_
  refine seg wide_wide [.p, .as (.bool false), .p, .p, .as (.bool false), .p] [0, 1, 2, 4, 5, 21, 6, 26, 7, 8, 9, 34] [Value.bool (decide ((bt ls + bt ll : Int) < 0)) = .bool false, Value.bool (decide ((bt ls + bt ll : Int) > 524288)) = .bool false] [(0, .agg #[.int .i64 lk, .int .i64 ls, .int .i64 ll, .int .i64 lr]), (1, .int .i64 extra), (2, .pointer (some ⟨w.heap.size, 0, none⟩)), (4, .bool false), (5, .pointer (some ⟨sb, 0, none⟩)), (21, .bool false), (6, .pointer (some ⟨na, 0, none⟩)), (26, .bool false), (7, .int .i64 1), (8, .int .i64 1), (9, .int .i64 (bt ls + bt ll)), (34, .bool false)] 6 0 hS (by kernel_rfl) (by kernel_rfl) (by kernel_rfl) (.cons (as_f (by omega)) (.cons (as_f (by omega)) .nil)) fun a hS => ?_
  refine seg_end ?_
  refine hK22 _ _ ?_
  refine cond_f hS rfl ?_
  refine wpIn_skip ?_
  refine hK21 _ _ ?_
  refine wpIn_seq_k fun K23 hK23 => ?_
  refine wpIn_block ?_
  have hnaok : (leafT na (0 + 1) lk ls ll lr).Ok w3 sb := hoka
  refine loop_ghost (fun ((t, c, j) : Tr × Int × Nat) a' w' => St 137 [] [(1, .int .i64 extra), (5, .pointer (some ⟨sb, 0, none⟩)), (6, .pointer (some ⟨t.b, 0, none⟩)), (7, .int .i64 t.tt), (8, .int .i64 t.lf), (9, .int .i64 t.wd)] a' ∧ t.Ok w' sb ∧ Blk w' sb 102 #[.int .i64 c] ∧ Ext [] w w' ∧ t.tt + 1 = ((2 ^ j : Nat) : Int) ∧ j ≤ 22 ∧ (0 ≤ c ∧ c ≤ (j : Int) + 1)) (fun ((t, c, j) : Tr × Int × Nat) => 23 - j) (leafT na (0 + 1) lk ls ll lr, 0 + 1, 1) ⟨hS.keepTo [1, 5, 6, 7, 8, 9] (by kernel_rfl), hnaok, hBs3, hE3, by show (1 : Int) + 1 = _; rfl, by omega, by omega⟩ ?_
  rintro ⟨t, c, j⟩ a w4 ⟨hS, hok, hsb, hEx, hj, hj2, hc⟩
  have htt := Tr.Ok.tt_pos t hok
  have hmax := hok.nums.max
  have hp22 : j ≤ 21 → (2 : Nat) ^ j ≤ 2097152 := fun h => (Nat.pow_le_pow_right (by omega) h : 2 ^ j ≤ 2 ^ 21)
  have hp22' : j = 22 → (2 : Nat) ^ j = 4194304 := fun h => by rw [h]
  have hN4 : Blk w4 t.b 106 #[.pointer (some ⟨sb, 0, none⟩), .int .i64 t.num, .int .i64 t.kd, .int .i64 t.nn, .int .i64 t.lk, .int .i64 t.ls, .int .i64 t.ll, .int .i64 t.lr, t.ks, .int .i64 t.wd, .int .i64 t.lf, .int .i64 t.tt, .bool t.fl] := hok.blk
  refine wpIn_seq_k fun K24 hK24 => ?_
  refine wpIn_seq_k fun K25 hK25 => ?_
  refine region 4 (by kernel_rfl) ?_
  refine seg wide_wide [.p, .as (.int .i64 (2 * t.tt)), .as (.int .i64 ((2 * t.tt) + 1)), .p] [1, 5, 6, 7, 8, 9, 38] [Value.int .i64 (IntKind.i64.wrap (2 * t.tt)) = .int .i64 (2 * t.tt), Value.int .i64 (IntKind.i64.wrap ((2 * t.tt) + 1)) = .int .i64 ((2 * t.tt) + 1)] [(1, .int .i64 extra), (5, .pointer (some ⟨sb, 0, none⟩)), (6, .pointer (some ⟨t.b, 0, none⟩)), (7, .int .i64 t.tt), (8, .int .i64 t.lf), (9, .int .i64 t.wd), (38, .bool (decide (((2 * t.tt) + 1 : Int) ≤ 4194304)))] 4 0 hS (by kernel_rfl) (by kernel_rfl) (by kernel_rfl) (.cons (as_i64 (by omega)) (.cons (as_i64 (by omega)) .nil)) fun a hS => ?_
  refine seg_end ?_
  refine hK25 _ _ ?_
  refine cond_b hS rfl (fun hb26 => ?_) (fun hb26 => ?_)
  · -- decide (((2 * t.tt) + 1 : Int) ≤ 4194304) is true
    replace hb26 := of_decide_eq_true hb26
    have hj21 : j ≤ 21 := by omega
    refine wpIn_skip ?_
    refine hK24 _ _ ?_
    refine wpIn_block ?_
    refine wpIn_seq_k fun K27 hK27 => ?_
    refine region 10 (by kernel_rfl) ?_
    refine seg wide_wide [.p, .p, .p] [1, 5, 6, 7, 8, 9, 40, 41, 42] [] [(1, .int .i64 extra), (5, .pointer (some ⟨sb, 0, none⟩)), (6, .pointer (some ⟨t.b, 0, none⟩)), (7, .int .i64 t.tt), (8, .int .i64 t.lf), (9, .int .i64 t.wd), (40, .pointer (some ⟨sb, 0, none⟩)), (41, .pointer (some ⟨t.b, 0, none⟩)), (42, .pointer (some ⟨t.b, 0, none⟩))] 3 7 hS (by kernel_rfl) (by kernel_rfl) (by kernel_rfl) .nil fun a hS => ?_
    refine eff_new wide_wide (r := 6) (cs := #[.pointer (some ⟨t.b, 0, none⟩), .pointer (some ⟨t.b, 0, none⟩)]) (T := 47) (v := Value.slice (some ⟨w4.heap.size, 0, none⟩) 2 2) (d := (some 43)) hS (by kernel_rfl) fun a w28 hw29 hS => ?_
    have hn30 : sb ≠ w4.heap.size := Nat.ne_of_lt hsb.lt
    have hB31 : Blk w28 sb 102 (#[.int .i64 c]) := by rw [hw29]; exact hsb.alloc _
    have hX32 : Ext [] w4 w28 := by rw [hw29]; exact (Ext.refl _ _).alloc _
    have hG33 : t.Ok w28 sb := hok.ext hX32 _ (by simp)
    have hB34 : Blk w28 (w4.heap.size) 47 #[.pointer (some ⟨t.b, 0, none⟩), .pointer (some ⟨t.b, 0, none⟩)] := by rw [hw29]; exact Blk.new _ _ _
    have hs35 : w.heap.size ≤ w4.heap.size := hEx.size
    have hE36 : Ext [] w w28 := by rw [hw29]; exact hEx.alloc _
    have hOvw5 : OwnR w28 47 1 w4.heap.size 2 2 [(t).ptr, (t).ptr] := OwnR.of_blk (cs := #[(t).ptr, (t).ptr]) (n := 2) hB34 rfl (by decide)
    refine eff_call wide_wide (r := 5) (f := 20) (vs := [.pointer (some ⟨sb, 0, none⟩), .int .i64 3, .int .i64 0, .slice (some ⟨w4.heap.size, 0, none⟩) 2 2]) (cap := #[]) (d := (some 44)) hS (by kernel_rfl) Try.call20 #[.pointer (some ⟨sb, 0, none⟩), .int .i64 3, .int .i64 0, .slice (some ⟨w4.heap.size, 0, none⟩) 2 2] (by kernel_rfl) (Make_3 (ks := [(sb, t), (sb, t)]) hB31 (by omega) hOvw5.v (by intro q hq; simp at hq; subst hq; exact ⟨hG33, _, hB31⟩) (by simp)) ?_
    rintro _ w5 hmk
    rcases hmk with ⟨⟨q, hq, hne⟩, _⟩ | ⟨_, hgt, _⟩ | ⟨_, _, nb, vsw5, rfl, hnbw5, hvsw5, hokw5, hBsw5, hXw5⟩
    · simp at hq; subst hq; exact absurd rfl hne
    · exact absurd hgt (by simp [kt, sumT]; omega)
    refine ⟨_, rfl, fun a hS => ?_⟩
    have hE37 : Ext [] w w5 := hE36.trans hXw5 (fun b hb => by simp at hb; subst hb; exact .inr hnsb)
    have e1 : sumW (kt [(sb, t), (sb, t)]) = 2 * t.wd := by simp [kt, sumW]; omega
    have e2 : sumL (kt [(sb, t), (sb, t)]) = 2 * t.lf := by simp [kt, sumL]; omega
    have e3 : 1 + sumT (kt [(sb, t), (sb, t)]) = (2 * t.tt) + 1 := by simp [kt, sumT]; omega
    rw [e1, e2, e3] at hokw5
    replace hokw5 : ((Tr.node nb (c + 1) 3 0 0 0 0 0 vsw5 (2 * t.wd) (2 * t.lf) ((2 * t.tt) + 1) true [t, t])).Ok w5 sb := hokw5
    have hNw5 : Blk w5 nb 106 #[.pointer (some ⟨sb, 0, none⟩), .int .i64 (c + 1), .int .i64 3, .int .i64 0, .int .i64 0, .int .i64 0, .int .i64 0, .int .i64 0, vsw5, .int .i64 (2 * t.wd), .int .i64 (2 * t.lf), .int .i64 ((2 * t.tt) + 1), .bool true] := hokw5.blk
    have hG38 : t.Ok w5 sb := hG33.ext hXw5 _ (fun b hb => by simp at hb; subst hb; exact hG33.not_foot hB31 (by decide) (by decide))
    refine seg wide_wide [.p, .p, .p, .p, .p] [1, 5, 6, 7, 8, 9, 10, 11] [] [(1, .int .i64 extra), (5, .pointer (some ⟨sb, 0, none⟩)), (6, .pointer (some ⟨t.b, 0, none⟩)), (7, .int .i64 t.tt), (8, .int .i64 t.lf), (9, .int .i64 t.wd), (10, .pointer (some ⟨nb, 0, none⟩)), (11, .int .i64 0)] 10 0 hS (by kernel_rfl) (by kernel_rfl) (by kernel_rfl) .nil fun a hS => ?_
    refine seg_end ?_
    refine hK27 _ _ ?_
    refine wpIn_seq_k fun K39 hK39 => ?_
    refine region 4 (by kernel_rfl) ?_
    refine seg wide_wide [.p, .as (.int .i64 (2 * t.tt)), .as (.int .i64 ((2 * t.tt) + 1)), .p] [1, 5, 6, 7, 8, 9, 10, 11] [Value.int .i64 (IntKind.i64.wrap (2 * t.tt)) = .int .i64 (2 * t.tt), Value.int .i64 (IntKind.i64.wrap ((2 * t.tt) + 1)) = .int .i64 ((2 * t.tt) + 1)] [(1, .int .i64 extra), (5, .pointer (some ⟨sb, 0, none⟩)), (6, .pointer (some ⟨t.b, 0, none⟩)), (7, .int .i64 ((2 * t.tt) + 1)), (8, .int .i64 t.lf), (9, .int .i64 t.wd), (10, .pointer (some ⟨nb, 0, none⟩)), (11, .int .i64 0)] 4 0 hS (by kernel_rfl) (by kernel_rfl) (by kernel_rfl) (.cons (as_i64 (by omega)) (.cons (as_i64 (by omega)) .nil)) fun a hS => ?_
    refine seg_end ?_
    refine hK39 _ _ ?_
    refine wpIn_seq_k fun K40 hK40 => ?_
    refine region 3 (by kernel_rfl) ?_
    refine seg wide_wide [.p, .as (.int .i64 (2 * t.lf)), .p] [1, 5, 6, 7, 8, 9, 10, 11] [Value.int .i64 (IntKind.i64.wrap (2 * t.lf)) = .int .i64 (2 * t.lf)] [(1, .int .i64 extra), (5, .pointer (some ⟨sb, 0, none⟩)), (6, .pointer (some ⟨t.b, 0, none⟩)), (7, .int .i64 ((2 * t.tt) + 1)), (8, .int .i64 (2 * t.lf)), (9, .int .i64 t.wd), (10, .pointer (some ⟨nb, 0, none⟩)), (11, .int .i64 0)] 3 0 hS (by kernel_rfl) (by kernel_rfl) (by kernel_rfl) (.cons (as_i64 (by omega)) .nil) fun a hS => ?_
    refine seg_end ?_
    refine hK40 _ _ ?_
    refine wpIn_seq_k fun K41 hK41 => ?_
    refine region 3 (by kernel_rfl) ?_
    refine seg wide_wide [.p, .as (.int .i64 (2 * t.wd)), .p] [1, 5, 6, 7, 8, 9, 10, 11] [Value.int .i64 (IntKind.i64.wrap (2 * t.wd)) = .int .i64 (2 * t.wd)] [(1, .int .i64 extra), (5, .pointer (some ⟨sb, 0, none⟩)), (6, .pointer (some ⟨t.b, 0, none⟩)), (7, .int .i64 ((2 * t.tt) + 1)), (8, .int .i64 (2 * t.lf)), (9, .int .i64 (2 * t.wd)), (10, .pointer (some ⟨nb, 0, none⟩)), (11, .int .i64 0)] 3 0 hS (by kernel_rfl) (by kernel_rfl) (by kernel_rfl) (.cons (as_i64 (by omega)) .nil) fun a hS => ?_
    refine seg_end ?_
    refine hK41 _ _ ?_
    refine wpIn_seq_k fun K42 hK42 => ?_
    refine wpIn_seq_k fun K43 hK43 => ?_
    refine region 29 (by kernel_rfl) ?_
    refine seg wide_wide [.p, .p, .p, .p, .p, .p, .p, .p] [1, 5, 6, 7, 8, 9, 10, 11, 60, 61] [] [(1, .int .i64 extra), (5, .pointer (some ⟨sb, 0, none⟩)), (6, .pointer (some ⟨t.b, 0, none⟩)), (7, .int .i64 ((2 * t.tt) + 1)), (8, .int .i64 (2 * t.lf)), (9, .int .i64 (2 * t.wd)), (10, .pointer (some ⟨nb, 0, none⟩)), (11, .int .i64 0), (60, .bool false), (61, .pointer (some ⟨nb, 0, none⟩))] 8 21 hS (by kernel_rfl) (by kernel_rfl) (by kernel_rfl) .nil fun a hS => ?_
    refine eff_call_ro wide_wide (r := 20) (f := 21) (vs := [.pointer (some ⟨nb, 0, none⟩)]) (cap := #[]) (d := (some 62)) (v := Value.int .i64 (2 * t.lf)) hS (by kernel_rfl) Try.call21 #[.pointer (some ⟨nb, 0, none⟩)] (by kernel_rfl) (Leafs_any hNw5) fun a hS => ?_
    refine seg wide_wide [.p, .as (.bool false), .p, .p, .p] [1, 5, 6, 7, 8, 9, 10, 11, 66, 67] [Value.bool (((2 * t.lf : Int) != (2 * t.lf))) = .bool false] [(1, .int .i64 extra), (5, .pointer (some ⟨sb, 0, none⟩)), (6, .pointer (some ⟨t.b, 0, none⟩)), (7, .int .i64 ((2 * t.tt) + 1)), (8, .int .i64 (2 * t.lf)), (9, .int .i64 (2 * t.wd)), (10, .pointer (some ⟨nb, 0, none⟩)), (11, .int .i64 0), (66, .bool false), (67, .pointer (some ⟨nb, 0, none⟩))] 14 15 hS (by kernel_rfl) (by kernel_rfl) (by kernel_rfl) (.cons (as_ne_f (rfl)) .nil) fun a hS => ?_
    refine eff_call_ro wide_wide (r := 14) (f := 19) (vs := [.pointer (some ⟨nb, 0, none⟩)]) (cap := #[]) (d := (some 68)) (v := Value.int .i64 (2 * t.wd)) hS (by kernel_rfl) Try.call19 #[.pointer (some ⟨nb, 0, none⟩)] (by kernel_rfl) (Width_any hNw5) fun a hS => ?_
    refine seg wide_wide [.p, .as (.bool false), .p, .p, .p] [1, 5, 6, 7, 8, 9, 10, 11, 72, 73] [Value.bool (((2 * t.wd : Int) != (2 * t.wd))) = .bool false] [(1, .int .i64 extra), (5, .pointer (some ⟨sb, 0, none⟩)), (6, .pointer (some ⟨t.b, 0, none⟩)), (7, .int .i64 ((2 * t.tt) + 1)), (8, .int .i64 (2 * t.lf)), (9, .int .i64 (2 * t.wd)), (10, .pointer (some ⟨nb, 0, none⟩)), (11, .int .i64 0), (72, .bool false), (73, .pointer (some ⟨nb, 0, none⟩))] 20 9 hS (by kernel_rfl) (by kernel_rfl) (by kernel_rfl) (.cons (as_ne_f (rfl)) .nil) fun a hS => ?_
    refine eff_call_ro wide_wide (r := 8) (f := 22) (vs := [.pointer (some ⟨nb, 0, none⟩)]) (cap := #[]) (d := (some 74)) (v := Value.int .i64 ((2 * t.tt) + 1)) hS (by kernel_rfl) Try.call22 #[.pointer (some ⟨nb, 0, none⟩)] (by kernel_rfl) (Size_any hNw5) fun a hS => ?_
    refine seg wide_wide [.p, .as (.bool false), .p, .p, .p] [1, 5, 6, 7, 8, 9, 10, 11, 78, 79] [Value.bool ((((2 * t.tt) + 1 : Int) != ((2 * t.tt) + 1))) = .bool false] [(1, .int .i64 extra), (5, .pointer (some ⟨sb, 0, none⟩)), (6, .pointer (some ⟨t.b, 0, none⟩)), (7, .int .i64 ((2 * t.tt) + 1)), (8, .int .i64 (2 * t.lf)), (9, .int .i64 (2 * t.wd)), (10, .pointer (some ⟨nb, 0, none⟩)), (11, .int .i64 0), (78, .bool false), (79, .pointer (some ⟨nb, 0, none⟩))] 26 3 hS (by kernel_rfl) (by kernel_rfl) (by kernel_rfl) (.cons (as_ne_f (rfl)) .nil) fun a hS => ?_
    refine eff_call_ro wide_wide (r := 2) (f := 23) (vs := [.pointer (some ⟨nb, 0, none⟩)]) (cap := #[]) (d := (some 80)) (v := Value.bool true) hS (by kernel_rfl) Try.call23 #[.pointer (some ⟨nb, 0, none⟩)] (by kernel_rfl) (Failed_any hNw5) fun a hS => ?_
    refine seg wide_wide [.p, .p] [1, 5, 6, 7, 8, 9, 10, 11, 82] [] [(1, .int .i64 extra), (5, .pointer (some ⟨sb, 0, none⟩)), (6, .pointer (some ⟨t.b, 0, none⟩)), (7, .int .i64 ((2 * t.tt) + 1)), (8, .int .i64 (2 * t.lf)), (9, .int .i64 (2 * t.wd)), (10, .pointer (some ⟨nb, 0, none⟩)), (11, .int .i64 0), (82, .bool false)] 29 0 hS (by kernel_rfl) (by kernel_rfl) (by kernel_rfl) .nil fun a hS => ?_
    refine seg_end ?_
    refine hK43 _ _ ?_
    refine cond_f hS rfl ?_
    refine wpIn_skip ?_
    refine hK42 _ _ ?_
    refine region 2 (by kernel_rfl) ?_
    refine seg wide_wide [.p, .p] [1, 5, 6, 7, 8, 9, 10, 11, 82] [] [(1, .int .i64 extra), (5, .pointer (some ⟨sb, 0, none⟩)), (6, .pointer (some ⟨nb, 0, none⟩)), (7, .int .i64 ((2 * t.tt) + 1)), (8, .int .i64 (2 * t.lf)), (9, .int .i64 (2 * t.wd)), (10, .pointer (some ⟨nb, 0, none⟩)), (11, .int .i64 0), (82, .bool false)] 2 0 hS (by kernel_rfl) (by kernel_rfl) (by kernel_rfl) .nil fun a hS => ?_
    refine seg_end ?_
    refine inBlock_normal ?_
    exact ⟨((Tr.node nb (c + 1) 3 0 0 0 0 0 vsw5 (2 * t.wd) (2 * t.lf) ((2 * t.tt) + 1) true [t, t]), c + 1, j + 1), ⟨hS.keepTo [1, 5, 6, 7, 8, 9] (by kernel_rfl), hokw5, hBsw5, hE37, by rw [Nat.pow_succ]; show ((2 * t.tt) + 1) + 1 = _; omega, by omega, by omega⟩, by simp; omega⟩
  · -- decide (((2 * t.tt) + 1 : Int) ≤ 4194304) is false
    replace hb26 := of_decide_eq_false hb26
    have hj22 : j = 22 := by omega
    have htt22 : t.tt = 4194303 := by have := hp22' hj22; omega
    refine wpIn_exit ?_
    refine then_exit ?_
    refine then_exit ?_
    refine inBlock_hit ?_
    refine hK23 _ _ ?_
    refine wpIn_seq_k fun K44 hK44 => ?_
    refine region 12 (by kernel_rfl) ?_
    refine seg wide_wide [.p, .p] [1, 5, 6, 7, 8, 9, 85, 86] [] [(1, .int .i64 extra), (5, .pointer (some ⟨sb, 0, none⟩)), (6, .pointer (some ⟨t.b, 0, none⟩)), (7, .int .i64 t.tt), (8, .int .i64 t.lf), (9, .int .i64 t.wd), (85, .pointer (some ⟨sb, 0, none⟩)), (86, .int .i64 extra)] 2 10 hS (by kernel_rfl) (by kernel_rfl) (by kernel_rfl) .nil fun a hS => ?_
    refine eff_call_ro wide_wide (r := 9) (f := 24) (vs := [.int .i64 extra, .int .i64 1000]) (cap := #[]) (d := (some 87)) (v := Value.int .i64 (rnd extra 1000)) hS (by kernel_rfl) Try.call24 #[.int .i64 extra, .int .i64 1000] (by kernel_rfl) (Round_any (by omega)) fun a hS => ?_
    refine seg wide_wide [.p, .p] [1, 5, 6, 7, 8, 9, 85, 87, 88, 89] [] [(1, .int .i64 extra), (5, .pointer (some ⟨sb, 0, none⟩)), (6, .pointer (some ⟨t.b, 0, none⟩)), (7, .int .i64 t.tt), (8, .int .i64 t.lf), (9, .int .i64 t.wd), (85, .pointer (some ⟨sb, 0, none⟩)), (87, .int .i64 (rnd extra 1000)), (88, .pointer (some ⟨t.b, 0, none⟩)), (89, .pointer (some ⟨t.b, 0, none⟩))] 5 7 hS (by kernel_rfl) (by kernel_rfl) (by kernel_rfl) .nil fun a hS => ?_
    refine eff_new wide_wide (r := 6) (cs := #[.pointer (some ⟨t.b, 0, none⟩), .pointer (some ⟨t.b, 0, none⟩)]) (T := 47) (v := Value.slice (some ⟨w4.heap.size, 0, none⟩) 2 2) (d := (some 90)) hS (by kernel_rfl) fun a w45 hw46 hS => ?_
    have hn47 : sb ≠ w4.heap.size := Nat.ne_of_lt hsb.lt
    have hB48 : Blk w45 sb 102 (#[.int .i64 c]) := by rw [hw46]; exact hsb.alloc _
    have hX49 : Ext [] w4 w45 := by rw [hw46]; exact (Ext.refl _ _).alloc _
    have hG50 : t.Ok w45 sb := hok.ext hX49 _ (by simp)
    have hB51 : Blk w45 (w4.heap.size) 47 #[.pointer (some ⟨t.b, 0, none⟩), .pointer (some ⟨t.b, 0, none⟩)] := by rw [hw46]; exact Blk.new _ _ _
    have hs52 : w.heap.size ≤ w4.heap.size := hEx.size
    have hE53 : Ext [] w w45 := by rw [hw46]; exact hEx.alloc _
    have hOvw6 : OwnR w45 47 1 w4.heap.size 2 2 [(t).ptr, (t).ptr] := OwnR.of_blk (cs := #[(t).ptr, (t).ptr]) (n := 2) hB51 rfl (by decide)
    refine eff_call wide_wide (r := 5) (f := 20) (vs := [.pointer (some ⟨sb, 0, none⟩), .int .i64 2, .int .i64 (rnd extra 1000), .slice (some ⟨w4.heap.size, 0, none⟩) 2 2]) (cap := #[]) (d := (some 91)) hS (by kernel_rfl) Try.call20 #[.pointer (some ⟨sb, 0, none⟩), .int .i64 2, .int .i64 (rnd extra 1000), .slice (some ⟨w4.heap.size, 0, none⟩) 2 2] (by kernel_rfl) (Make_2 (n := rnd extra 1000) (ks := [(sb, t), (sb, t)]) hB48 (by omega) (by omega) hOvw6.v (by intro q hq; simp at hq; subst hq; exact ⟨hG50, _, hB48⟩) (by simp)) ?_
    rintro _ w6 hmk
    rcases hmk with ⟨⟨q, hq, hne⟩, _⟩ | ⟨_, _, rfl, hXw6⟩ | ⟨_, hle, _⟩
    · simp at hq; subst hq; exact absurd rfl hne
    rotate_left
    · exact absurd hle (by simp [kt, sumT]; omega)
    refine ⟨_, rfl, fun a hS => ?_⟩
    have hE54 := hE53.trans0 hXw6
    have hB55 : Blk w6 sb 102 (#[.int .i64 c]) := hB48.ext hXw6 (by simp)
    have hB56 : Blk w6 w4.heap.size 47 (#[.pointer (some ⟨t.b, 0, none⟩), .pointer (some ⟨t.b, 0, none⟩)]) := hB51.ext hXw6 (by simp)
    have hG57 : t.Ok w6 sb := hG50.ext hXw6 _ (by simp)
    refine seg wide_wide [.p, .p, .p, .p, .p] [1, 5, 6, 7, 8, 9, 12, 13] [] [(1, .int .i64 extra), (5, .pointer (some ⟨sb, 0, none⟩)), (6, .pointer (some ⟨t.b, 0, none⟩)), (7, .int .i64 t.tt), (8, .int .i64 t.lf), (9, .int .i64 t.wd), (12, .pointer none), (13, .int .i64 6)] 12 0 hS (by kernel_rfl) (by kernel_rfl) (by kernel_rfl) .nil fun a hS => ?_
    refine seg_end ?_
    refine hK44 _ _ ?_
    refine wpIn_seq_k fun K58 hK58 => ?_
    refine wpIn_seq_k fun K59 hK59 => ?_
    refine region 6 (by kernel_rfl) ?_
    refine seg wide_wide [.p, .p, .p, .p, .p, .p] [1, 5, 6, 7, 8, 9, 12, 13, 99] [] [(1, .int .i64 extra), (5, .pointer (some ⟨sb, 0, none⟩)), (6, .pointer (some ⟨t.b, 0, none⟩)), (7, .int .i64 t.tt), (8, .int .i64 t.lf), (9, .int .i64 t.wd), (12, .pointer none), (13, .int .i64 6), (99, .bool false)] 6 0 hS (by kernel_rfl) (by kernel_rfl) (by kernel_rfl) .nil fun a hS => ?_
    refine seg_end ?_
    refine hK59 _ _ ?_
    refine cond_f hS rfl ?_
    refine wpIn_skip ?_
    refine hK58 _ _ ?_
    refine wpIn_seq_k fun K60 hK60 => ?_
    refine region 9 (by kernel_rfl) ?_
    refine seg wide_wide [.p, .p] [1, 5, 6, 7, 8, 9, 12, 13, 99, 101, 102] [] [(1, .int .i64 extra), (5, .pointer (some ⟨sb, 0, none⟩)), (6, .pointer (some ⟨t.b, 0, none⟩)), (7, .int .i64 t.tt), (8, .int .i64 t.lf), (9, .int .i64 t.wd), (12, .pointer none), (13, .int .i64 6), (99, .bool false), (101, .pointer (some ⟨sb, 0, none⟩)), (102, .pointer (some ⟨t.b, 0, none⟩))] 2 7 hS (by kernel_rfl) (by kernel_rfl) (by kernel_rfl) .nil fun a hS => ?_
    refine eff_new wide_wide (r := 6) (cs := #[.pointer (some ⟨t.b, 0, none⟩)]) (T := 47) (v := Value.slice (some ⟨w6.heap.size, 0, none⟩) 1 1) (d := (some 103)) hS (by kernel_rfl) fun a w61 hw62 hS => ?_
    have hn63 : sb ≠ w6.heap.size := Nat.ne_of_lt hB55.lt
    have hn64 : w4.heap.size ≠ w6.heap.size := Nat.ne_of_lt hB56.lt
    have hB65 : Blk w61 sb 102 (#[.int .i64 c]) := by rw [hw62]; exact hB55.alloc _
    have hB66 : Blk w61 w4.heap.size 47 (#[.pointer (some ⟨t.b, 0, none⟩), .pointer (some ⟨t.b, 0, none⟩)]) := by rw [hw62]; exact hB56.alloc _
    have hX67 : Ext [] w6 w61 := by rw [hw62]; exact (Ext.refl _ _).alloc _
    have hG68 : t.Ok w61 sb := hG57.ext hX67 _ (by simp)
    have hB69 : Blk w61 (w6.heap.size) 47 #[.pointer (some ⟨t.b, 0, none⟩)] := by rw [hw62]; exact Blk.new _ _ _
    have hs70 : w.heap.size ≤ w6.heap.size := hE54.size
    have hE71 : Ext [] w w61 := by rw [hw62]; exact hE54.alloc _
    have hOvw7 : OwnR w61 47 1 w6.heap.size 1 1 [(t).ptr] := OwnR.of_blk (cs := #[(t).ptr]) (n := 1) hB69 rfl (by decide)
    refine eff_call wide_wide (r := 5) (f := 20) (vs := [.pointer (some ⟨sb, 0, none⟩), .int .i64 4, .int .i64 0, .slice (some ⟨w6.heap.size, 0, none⟩) 1 1]) (cap := #[]) (d := (some 104)) hS (by kernel_rfl) Try.call20 #[.pointer (some ⟨sb, 0, none⟩), .int .i64 4, .int .i64 0, .slice (some ⟨w6.heap.size, 0, none⟩) 1 1] (by kernel_rfl) (Make_4 (ks := [(sb, t)]) hB65 (by omega) hOvw7.v (by intro q hq; simp at hq; subst hq; exact ⟨hG68, _, hB65⟩) (by simp)) ?_
    rintro _ w7 hmk
    rcases hmk with ⟨⟨q, hq, hne⟩, _⟩ | ⟨_, hgt, _⟩ | ⟨_, _, nz, vsw7, rfl, hnbw7, hvsw7, hokw7, hBsw7, hXw7⟩
    · simp at hq; subst hq; exact absurd rfl hne
    · exact absurd hgt (by simp [kt, sumT]; omega)
    refine ⟨_, rfl, fun a hS => ?_⟩
    have hE72 : Ext [] w w7 := hE71.trans hXw7 (fun b hb => by simp at hb; subst hb; exact .inr hnsb)
    have z1 : sumW (kt [(sb, t)]) = t.wd := by simp [kt, sumW]
    have z2 : sumL (kt [(sb, t)]) = t.lf := by simp [kt, sumL]
    have z3 : 1 + sumT (kt [(sb, t)]) = 1 + t.tt := by simp [kt, sumT]
    have z4 : (((4 : Int) == 3 || (4 : Int) == 5) || anyF (kt [(sb, t)])) = t.fl := by simp [kt, anyF]
    rw [z1, z2, z3, z4] at hokw7
    replace hokw7 : ((Tr.node nz (c + 1) 4 0 0 0 0 0 vsw7 t.wd t.lf (1 + t.tt) t.fl [t])).Ok w7 sb := hokw7
    have hNw7 : Blk w7 nz 106 #[.pointer (some ⟨sb, 0, none⟩), .int .i64 (c + 1), .int .i64 4, .int .i64 0, .int .i64 0, .int .i64 0, .int .i64 0, .int .i64 0, vsw7, .int .i64 t.wd, .int .i64 t.lf, .int .i64 (1 + t.tt), .bool t.fl] := hokw7.blk
    have hG73 : t.Ok w7 sb := hG68.ext hXw7 _ (fun b hb => by simp at hb; subst hb; exact hG68.not_foot hB65 (by decide) (by decide))
    refine seg wide_wide [.p, .p, .p, .p, .p] [1, 5, 6, 7, 8, 9, 12, 13, 99] [] [(1, .int .i64 extra), (5, .pointer (some ⟨sb, 0, none⟩)), (6, .pointer (some ⟨t.b, 0, none⟩)), (7, .int .i64 t.tt), (8, .int .i64 t.lf), (9, .int .i64 t.wd), (12, .pointer (some ⟨nz, 0, none⟩)), (13, .int .i64 0), (99, .bool false)] 9 0 hS (by kernel_rfl) (by kernel_rfl) (by kernel_rfl) .nil fun a hS => ?_
    refine seg_end ?_
    refine hK60 _ _ ?_
    refine wpIn_seq_k fun K74 hK74 => ?_
    refine wpIn_seq_k fun K75 hK75 => ?_
    refine region 17 (by kernel_rfl) ?_
    refine seg wide_wide [.p, .as (.int .i64 (t.tt + 1)), .as (.bool false), .p, .p, .p, .p, .p, .p, .p, .p, .p, .p] [1, 5, 6, 7, 8, 9, 12, 13, 99, 118, 119] [Value.int .i64 (IntKind.i64.wrap (t.tt + 1)) = .int .i64 (t.tt + 1), Value.bool (decide ((t.tt + 1 : Int) > 4194304)) = .bool false] [(1, .int .i64 extra), (5, .pointer (some ⟨sb, 0, none⟩)), (6, .pointer (some ⟨t.b, 0, none⟩)), (7, .int .i64 t.tt), (8, .int .i64 t.lf), (9, .int .i64 t.wd), (12, .pointer (some ⟨nz, 0, none⟩)), (13, .int .i64 0), (99, .bool false), (118, .bool false), (119, .pointer (some ⟨nz, 0, none⟩))] 13 4 hS (by kernel_rfl) (by kernel_rfl) (by kernel_rfl) (.cons (as_i64 (by omega)) (.cons (as_f (by omega)) .nil)) fun a hS => ?_
    refine eff_call_ro wide_wide (r := 3) (f := 21) (vs := [.pointer (some ⟨nz, 0, none⟩)]) (cap := #[]) (d := (some 120)) (v := Value.int .i64 t.lf) hS (by kernel_rfl) Try.call21 #[.pointer (some ⟨nz, 0, none⟩)] (by kernel_rfl) (Leafs_any hNw7) fun a hS => ?_
    refine seg wide_wide [.p, .as (.bool false), .p] [1, 5, 6, 7, 8, 9, 12, 13, 99, 123] [Value.bool (((t.lf : Int) != t.lf)) = .bool false] [(1, .int .i64 extra), (5, .pointer (some ⟨sb, 0, none⟩)), (6, .pointer (some ⟨t.b, 0, none⟩)), (7, .int .i64 t.tt), (8, .int .i64 t.lf), (9, .int .i64 t.wd), (12, .pointer (some ⟨nz, 0, none⟩)), (13, .int .i64 0), (99, .bool false), (123, .bool false)] 17 0 hS (by kernel_rfl) (by kernel_rfl) (by kernel_rfl) (.cons (as_ne_f (rfl)) .nil) fun a hS => ?_
    refine seg_end ?_
    refine hK75 _ _ ?_
    refine cond_f hS rfl ?_
    refine wpIn_skip ?_
    refine hK74 _ _ ?_
    refine wpIn_seq_k fun K76 hK76 => ?_
    refine region 9 (by kernel_rfl) ?_
    refine seg wide_wide [.p, .p] [1, 5, 6, 7, 8, 9, 12, 13, 99, 123, 125, 126] [] [(1, .int .i64 extra), (5, .pointer (some ⟨sb, 0, none⟩)), (6, .pointer (some ⟨t.b, 0, none⟩)), (7, .int .i64 t.tt), (8, .int .i64 t.lf), (9, .int .i64 t.wd), (12, .pointer (some ⟨nz, 0, none⟩)), (13, .int .i64 0), (99, .bool false), (123, .bool false), (125, .pointer (some ⟨sb, 0, none⟩)), (126, .pointer (some ⟨nz, 0, none⟩))] 2 7 hS (by kernel_rfl) (by kernel_rfl) (by kernel_rfl) .nil fun a hS => ?_
    refine eff_new wide_wide (r := 6) (cs := #[.pointer (some ⟨nz, 0, none⟩)]) (T := 47) (v := Value.slice (some ⟨w7.heap.size, 0, none⟩) 1 1) (d := (some 127)) hS (by kernel_rfl) fun a w77 hw78 hS => ?_
    have hn79 : sb ≠ w7.heap.size := Nat.ne_of_lt hBsw7.lt
    have hn80 : nz ≠ w7.heap.size := Nat.ne_of_lt hNw7.lt
    have hB81 : Blk w77 sb 102 (#[.int .i64 (c + 1)]) := by rw [hw78]; exact hBsw7.alloc _
    have hB82 : Blk w77 nz 106 (#[.pointer (some ⟨sb, 0, none⟩), .int .i64 (c + 1), .int .i64 4, .int .i64 0, .int .i64 0, .int .i64 0, .int .i64 0, .int .i64 0, vsw7, .int .i64 t.wd, .int .i64 t.lf, .int .i64 (1 + t.tt), .bool t.fl]) := by rw [hw78]; exact hNw7.alloc _
    have hX83 : Ext [] w7 w77 := by rw [hw78]; exact (Ext.refl _ _).alloc _
    have hG84 : t.Ok w77 sb := hG73.ext hX83 _ (by simp)
    have hG85 : (Tr.node nz (c + 1) 4 0 0 0 0 0 vsw7 t.wd t.lf (1 + t.tt) t.fl [t]).Ok w77 sb := hokw7.ext hX83 _ (by simp)
    have hB86 : Blk w77 (w7.heap.size) 47 #[.pointer (some ⟨nz, 0, none⟩)] := by rw [hw78]; exact Blk.new _ _ _
    have hs87 : w.heap.size ≤ w7.heap.size := hE72.size
    have hE88 : Ext [] w w77 := by rw [hw78]; exact hE72.alloc _
    have hOvw8 : OwnR w77 47 1 w7.heap.size 1 1 [((Tr.node nz (c + 1) 4 0 0 0 0 0 vsw7 t.wd t.lf (1 + t.tt) t.fl [t])).ptr] := OwnR.of_blk (cs := #[((Tr.node nz (c + 1) 4 0 0 0 0 0 vsw7 t.wd t.lf (1 + t.tt) t.fl [t])).ptr]) (n := 1) hB86 rfl (by decide)
    refine eff_call wide_wide (r := 5) (f := 20) (vs := [.pointer (some ⟨sb, 0, none⟩), .int .i64 4, .int .i64 0, .slice (some ⟨w7.heap.size, 0, none⟩) 1 1]) (cap := #[]) (d := (some 128)) hS (by kernel_rfl) Try.call20 #[.pointer (some ⟨sb, 0, none⟩), .int .i64 4, .int .i64 0, .slice (some ⟨w7.heap.size, 0, none⟩) 1 1] (by kernel_rfl) (Make_4 (ks := [(sb, (Tr.node nz (c + 1) 4 0 0 0 0 0 vsw7 t.wd t.lf (1 + t.tt) t.fl [t]))]) hB81 (by omega) hOvw8.v (by intro q hq; simp at hq; subst hq; exact ⟨hG85, _, hB81⟩) (by simp)) ?_
    rintro _ w8 hmk
    rcases hmk with ⟨⟨q, hq, hne⟩, _⟩ | ⟨_, _, rfl, hXw8⟩ | ⟨_, hle, _⟩
    · simp at hq; subst hq; exact absurd rfl hne
    rotate_left
    · exact absurd hle (by simp [kt, sumT, tt_node]; omega)
    refine ⟨_, rfl, fun a hS => ?_⟩
    have hE89 := hE88.trans0 hXw8
    have hB90 : Blk w8 sb 102 (#[.int .i64 (c + 1)]) := hB81.ext hXw8 (by simp)
    have hB91 : Blk w8 nz 106 (#[.pointer (some ⟨sb, 0, none⟩), .int .i64 (c + 1), .int .i64 4, .int .i64 0, .int .i64 0, .int .i64 0, .int .i64 0, .int .i64 0, vsw7, .int .i64 t.wd, .int .i64 t.lf, .int .i64 (1 + t.tt), .bool t.fl]) := hB82.ext hXw8 (by simp)
    have hB92 : Blk w8 w7.heap.size 47 (#[.pointer (some ⟨nz, 0, none⟩)]) := hB86.ext hXw8 (by simp)
    have hG93 : t.Ok w8 sb := hG84.ext hXw8 _ (by simp)
    have hG94 : (Tr.node nz (c + 1) 4 0 0 0 0 0 vsw7 t.wd t.lf (1 + t.tt) t.fl [t]).Ok w8 sb := hG85.ext hXw8 _ (by simp)
    refine seg wide_wide [.p, .p, .p, .p, .p] [1, 5, 6, 7, 8, 9, 12, 13, 99, 123, 14] [] [(1, .int .i64 extra), (5, .pointer (some ⟨sb, 0, none⟩)), (6, .pointer (some ⟨t.b, 0, none⟩)), (7, .int .i64 t.tt), (8, .int .i64 t.lf), (9, .int .i64 t.wd), (12, .pointer (some ⟨nz, 0, none⟩)), (13, .int .i64 6), (99, .bool false), (123, .bool false), (14, .pointer none)] 9 0 hS (by kernel_rfl) (by kernel_rfl) (by kernel_rfl) .nil fun a hS => ?_
    refine seg_end ?_
    refine hK76 _ _ ?_
    refine wpIn_seq_k fun K95 hK95 => ?_
    refine region 7 (by kernel_rfl) ?_
    refine seg wide_wide [.p, .p, .p, .p, .p, .p, .p] [1, 5, 6, 7, 8, 9, 12, 13, 99, 123, 14, 4] [] [(1, .int .i64 extra), (5, .pointer (some ⟨sb, 0, none⟩)), (6, .pointer (some ⟨t.b, 0, none⟩)), (7, .int .i64 t.tt), (8, .int .i64 t.lf), (9, .int .i64 t.wd), (12, .pointer (some ⟨nz, 0, none⟩)), (13, .int .i64 6), (99, .bool false), (123, .bool false), (14, .pointer none), (4, .bool true)] 7 0 hS (by kernel_rfl) (by kernel_rfl) (by kernel_rfl) .nil fun a hS => ?_
    refine seg_end ?_
    refine hK95 _ _ ?_
    refine wpIn_ret ?_
    refine ret1 hS Try.results5 rfl ?_
    exact ⟨rfl, hE89⟩

end Go.Proofs.Ytpglmeeledmkoaa
