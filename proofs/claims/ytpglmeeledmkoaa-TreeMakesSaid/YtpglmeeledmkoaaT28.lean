import Derived.Test.YtpglmeeledmkoaaProg
import Derived.Test.YtpglmeeledmkoaaVc
import Derived.Test.YtpglmeeledmkoaaT27
namespace Go.Proofs.Ytpglmeeledmkoaa
open Go.Vc

theorem rowsOf_at : ∀ (l : List (Int × Tr)) (j i : Nat) (q : Int × Tr), l[j]? = some q → i < 6 → (rowsOf l)[0 + j * 6 + i]? = (rowc q.2)[i]?
  | [], j, i, q, hj, _ => by simp at hj
  | s :: l, 0, i, q, hj, hi => by
    simp only [List.getElem?_cons_zero, Option.some.injEq] at hj
    subst hj
    simp only [rowsOf, Nat.zero_mul, Nat.zero_add]
    rw [List.getElem?_append_left (by simp [rowc]; omega)]
  | s :: l, j + 1, i, q, hj, hi => by
    simp only [List.getElem?_cons_succ] at hj
    have ih := rowsOf_at l j i q hj hi
    simp only [rowsOf]
    rw [List.getElem?_append_right (by simp [rowc]; omega), ← ih]
    congr 1
    simp [rowc]; omega

set_option maxHeartbeats 1000000 in
theorem Numbers_any {N m : Nat} {w : World} {F : Fo} (hF : FI N m w F) :
    Calls Try.prog 36 #[.pointer (some ⟨F.fb, 0, none⟩)] w fun e w' => e = .returned (.bool true) ∧ Ext [] w w' := by
  refine calls_body 72 [(0, .pointer (some ⟨F.fb, 0, none⟩))] Try.func36 rfl (by kernel_rfl) (by kernel_rfl) (by kernel_rfl) fun a hS => ?_
  have hE0 : Ext [] w w := Ext.refl _ _
  refine wpIn_seq_k fun K1 hK1 => ?_
  refine region 1 (by kernel_rfl) ?_
  refine seg wide_wide [.p] [0, 2] [] [(0, .pointer (some ⟨F.fb, 0, none⟩)), (2, .bool false)] 1 0 hS (by kernel_rfl) (by kernel_rfl) (by kernel_rfl) .nil fun a hS => ?_
  refine seg_end ?_
  refine hK1 _ _ ?_
  refine wpIn_seq_k fun K2 hK2 => ?_
  refine wpIn_seq_k fun K3 hK3 => ?_
  refine region 1 (by kernel_rfl) ?_
  refine seg wide_wide [.p] [0, 2, 3] [] [(0, .pointer (some ⟨F.fb, 0, none⟩)), (2, .bool false), (3, .int .i64 0)] 1 0 hS (by kernel_rfl) (by kernel_rfl) (by kernel_rfl) .nil fun a hS => ?_
  refine seg_end ?_
  refine hK3 _ _ ?_
  refine wpIn_block ?_
  refine loop_ghost (fun (i : Nat) a' w' => St 72 [] [(0, .pointer (some ⟨F.fb, 0, none⟩)), (3, .int .i64 ↑i)] a' ∧ Ext [] w w') (fun (i : Nat) => 400 - i) 0 ⟨hS.keepTo [0, 3] (by kernel_rfl), hE0⟩ ?_
  rintro i a w1 ⟨hS, hEx⟩
  have hF1 := hF.ext0 hEx
  refine wpIn_seq_k fun K4 hK4 => ?_
  refine wpIn_seq_k fun K5 hK5 => ?_
  rcases (show ¬(i : Int) < F.L.length ∨ ((i : Int) < F.L.length ∧ ¬(i : Int) < 400) ∨ ((i : Int) < F.L.length ∧ (i : Int) < 400) by omega) with hc | ⟨hc, hd⟩ | ⟨hc, hd⟩
  · -- an alternative
    refine region 11 (by kernel_rfl) ?_
    refine seg wide_wide [.p, .p, .p, .p, .ld (.slice F.pb F.L.length F.pc), .p, .as (.bool false), .p, .no, .no, .p] [0, 3, 15] [w1.cell? ⟨F.fb, 2, none⟩ = some (.slice F.pb F.L.length F.pc), Value.bool (decide ((↑i : Int) < ↑F.L.length)) = .bool false] [(0, .pointer (some ⟨F.fb, 0, none⟩)), (3, .int .i64 ↑i), (15, .bool false)] 11 0 hS (by kernel_rfl) (by kernel_rfl) (by kernel_rfl) (.cons ((hF1.f).cell 2 rfl) (.cons (as_f (hc)) .nil)) fun a hS => ?_
    refine seg_end ?_
    refine hK5 _ _ ?_
    refine cond_f hS rfl ?_
    refine wpIn_exit ?_
    refine then_exit ?_
    refine then_exit ?_
    refine inBlock_hit ?_
    refine hK2 _ _ ?_
    refine wpIn_seq_k fun K6 hK6 => ?_
    refine region 1 (by kernel_rfl) ?_
    refine seg wide_wide [.p] [0, 3, 15, 2] [] [(0, .pointer (some ⟨F.fb, 0, none⟩)), (3, .int .i64 ↑i), (15, .bool false), (2, .bool true)] 1 0 hS (by kernel_rfl) (by kernel_rfl) (by kernel_rfl) .nil fun a hS => ?_
    refine seg_end ?_
    refine hK6 _ _ ?_
    refine wpIn_ret ?_
    refine ret1 hS Try.results36 rfl ?_
    exact ⟨rfl, hEx⟩
  · -- an alternative
    refine region 11 (by kernel_rfl) ?_
    refine seg wide_wide [.p, .p, .p, .p, .ld (.slice F.pb F.L.length F.pc), .p, .as (.bool true), .p, .p, .as (.bool false), .p] [0, 3, 15] [w1.cell? ⟨F.fb, 2, none⟩ = some (.slice F.pb F.L.length F.pc), Value.bool (decide ((↑i : Int) < ↑F.L.length)) = .bool true, Value.bool (decide ((↑i : Int) < 400)) = .bool false] [(0, .pointer (some ⟨F.fb, 0, none⟩)), (3, .int .i64 ↑i), (15, .bool false)] 11 0 hS (by kernel_rfl) (by kernel_rfl) (by kernel_rfl) (.cons ((hF1.f).cell 2 rfl) (.cons (as_t (hc)) (.cons (as_f (hd)) .nil))) fun a hS => ?_
    refine seg_end ?_
    refine hK5 _ _ ?_
    refine cond_f hS rfl ?_
    refine wpIn_exit ?_
    refine then_exit ?_
    refine then_exit ?_
    refine inBlock_hit ?_
    refine hK2 _ _ ?_
    refine wpIn_seq_k fun K7 hK7 => ?_
    refine region 1 (by kernel_rfl) ?_
    refine seg wide_wide [.p] [0, 3, 15, 2] [] [(0, .pointer (some ⟨F.fb, 0, none⟩)), (3, .int .i64 ↑i), (15, .bool false), (2, .bool true)] 1 0 hS (by kernel_rfl) (by kernel_rfl) (by kernel_rfl) .nil fun a hS => ?_
    refine seg_end ?_
    refine hK7 _ _ ?_
    refine wpIn_ret ?_
    refine ret1 hS Try.results36 rfl ?_
    exact ⟨rfl, hEx⟩
  · -- an alternative
    have hi : i < F.L.length := by omega
    obtain ⟨r, hr⟩ : ∃ r, F.L[i]? = some r := ⟨_, List.getElem?_eq_getElem hi⟩
    have hrm := List.mem_of_getElem? hr
    have hrn := (hF.num r hrm).1
    have hrowr := (hF1.ok.one r hrm).row
    have hBr : Blk w1 r.rb 40 #[.int .i64 r.k, .int .i64 ↑r.i, .int .i64 r.t.kd, .int .i64 r.t.nn, .int .i64 r.t.lk, .int .i64 r.t.ls, .int .i64 r.t.ll, .int .i64 r.t.lr, r.kv, .int .i64 r.t.tt] := (hF1.ok.one r hrm).blk
    have hTr : Blk w1 r.t.b 106 #[.pointer (some ⟨(sOf F.s0 F.s1 r.k), 0, none⟩), .int .i64 r.t.num, .int .i64 r.t.kd, .int .i64 r.t.nn, .int .i64 r.t.lk, .int .i64 r.t.ls, .int .i64 r.t.ll, .int .i64 r.t.lr, r.t.ks, .int .i64 r.t.wd, .int .i64 r.t.lf, .int .i64 r.t.tt, .bool r.t.fl] := (hF1.ok.one r hrm).ok.blk
    refine region 11 (by kernel_rfl) ?_
    refine seg wide_wide [.p, .p, .p, .p, .ld (.slice F.pb F.L.length F.pc), .p, .as (.bool true), .p, .p, .as (.bool true), .p] [0, 3, 15] [w1.cell? ⟨F.fb, 2, none⟩ = some (.slice F.pb F.L.length F.pc), Value.bool (decide ((↑i : Int) < ↑F.L.length)) = .bool true, Value.bool (decide ((↑i : Int) < 400)) = .bool true] [(0, .pointer (some ⟨F.fb, 0, none⟩)), (3, .int .i64 ↑i), (15, .bool true)] 11 0 hS (by kernel_rfl) (by kernel_rfl) (by kernel_rfl) (.cons ((hF1.f).cell 2 rfl) (.cons (as_t (hc)) (.cons (as_t (hd)) .nil))) fun a hS => ?_
    refine seg_end ?_
    refine hK5 _ _ ?_
    refine cond_t hS rfl ?_
    refine wpIn_skip ?_
    refine hK4 _ _ ?_
    refine wpIn_seq_k fun K8 hK8 => ?_
    refine wpIn_block ?_
    refine wpIn_seq_k fun K9 hK9 => ?_
    refine wpIn_seq_k fun K10 hK10 => ?_
    refine region 9 (by kernel_rfl) ?_
    refine seg wide_wide [.p, .p, .p, .ld (.slice F.pb F.L.length F.pc), .p, .run (.pointer (some ⟨bof (.slice F.pb F.L.length F.pc), 0 + i * 1, none⟩)), .ld (.pointer (some ⟨r.t.b, 0, none⟩))] [0, 3, 15, 24] [w1.cell? ⟨F.fb, 2, none⟩ = some (.slice F.pb F.L.length F.pc), Sem.run Try.prog (vS (Instr.indexAt 32 (.slice F.pb F.L.length F.pc) (.int .i64 ↑i))) w1 = .ok (.value (.pointer (some ⟨bof (.slice F.pb F.L.length F.pc), 0 + i * 1, none⟩))) w1, w1.cell? ⟨bof (.slice F.pb F.L.length F.pc), 0 + i * 1, none⟩ = some (.pointer (some ⟨r.t.b, 0, none⟩))] [(0, .pointer (some ⟨F.fb, 0, none⟩)), (3, .int .i64 ↑i), (15, .bool true), (24, .pointer (some ⟨r.t.b, 0, none⟩))] 7 2 hS (by kernel_rfl) (by kernel_rfl) (by kernel_rfl) (.cons ((hF1.f).cell 2 rfl) (.cons (ix_own (j := i) (hF1.P) (by kernel_rfl) (by kernel_rfl) rfl (by omega)) (.cons ((hF1.P).cellAt _ (by simp [hr, Tr.ptr])) .nil))) fun a hS => ?_
    refine eff_call_ro wide_wide (r := 1) (f := 31) (vs := [.pointer (some ⟨r.t.b, 0, none⟩)]) (cap := #[]) (d := (some 25)) (v := Value.int .i64 r.t.num) hS (by kernel_rfl) Try.call31 #[.pointer (some ⟨r.t.b, 0, none⟩)] (by kernel_rfl) (Number_any (hTr : Blk w1 r.t.b 106 (#[.pointer (some ⟨(sOf F.s0 F.s1 r.k), 0, none⟩), .int .i64 r.t.num, .int .i64 r.t.kd, .int .i64 r.t.nn, .int .i64 r.t.lk, .int .i64 r.t.ls, .int .i64 r.t.ll, .int .i64 r.t.lr, r.t.ks, .int .i64 r.t.wd, .int .i64 r.t.lf, .int .i64 r.t.tt, .bool r.t.fl]))) fun a hS => ?_
    refine seg wide_wide [.as (.bool false)] [0, 3, 15, 26] [Value.bool (decide ((r.t.num : Int) < 1)) = .bool false] [(0, .pointer (some ⟨F.fb, 0, none⟩)), (3, .int .i64 ↑i), (15, .bool true), (26, .bool false)] 9 0 hS (by kernel_rfl) (by kernel_rfl) (by kernel_rfl) (.cons (as_f (by omega)) .nil) fun a hS => ?_
    refine seg_end ?_
    refine hK10 _ _ ?_
    refine cond_f hS rfl ?_
    refine wpIn_skip ?_
    refine hK9 _ _ ?_
    refine wpIn_seq_k fun K11 hK11 => ?_
    refine region 1 (by kernel_rfl) ?_
    refine seg wide_wide [.p] [0, 3, 15, 26, 4] [] [(0, .pointer (some ⟨F.fb, 0, none⟩)), (3, .int .i64 ↑i), (15, .bool true), (26, .bool false), (4, .int .i64 0)] 1 0 hS (by kernel_rfl) (by kernel_rfl) (by kernel_rfl) .nil fun a hS => ?_
    refine seg_end ?_
    refine hK11 _ _ ?_
    refine wpIn_block ?_
    have hEy := hEx
    refine loop_ghost (fun (k : Nat) a' w' => St 72 [] [(0, .pointer (some ⟨F.fb, 0, none⟩)), (3, .int .i64 ↑i), (4, .int .i64 ↑k)] a' ∧ k ≤ i ∧ Ext [] w w') (fun (k : Nat) => i - k) 0 ⟨hS.keepTo [0, 3, 4] (by kernel_rfl), Nat.zero_le _, hEy⟩ ?_
    rintro k a w2 ⟨hS, hki, hEz⟩
    have hF2 := hF.ext0 hEz
    have hrowr2 := (hF2.ok.one r hrm).row
    have hBr2 : Blk w2 r.rb 40 #[.int .i64 r.k, .int .i64 ↑r.i, .int .i64 r.t.kd, .int .i64 r.t.nn, .int .i64 r.t.lk, .int .i64 r.t.ls, .int .i64 r.t.ll, .int .i64 r.t.lr, r.kv, .int .i64 r.t.tt] := (hF2.ok.one r hrm).blk
    have hTr2 : Blk w2 r.t.b 106 #[.pointer (some ⟨(sOf F.s0 F.s1 r.k), 0, none⟩), .int .i64 r.t.num, .int .i64 r.t.kd, .int .i64 r.t.nn, .int .i64 r.t.lk, .int .i64 r.t.ls, .int .i64 r.t.ll, .int .i64 r.t.lr, r.t.ks, .int .i64 r.t.wd, .int .i64 r.t.lf, .int .i64 r.t.tt, .bool r.t.fl] := (hF2.ok.one r hrm).ok.blk
    refine wpIn_seq_k fun K12 hK12 => ?_
    refine wpIn_seq_k fun K13 hK13 => ?_
    refine region 3 (by kernel_rfl) ?_
    refine seg wide_wide [.p, .p, .p] [0, 3, 4, 29] [] [(0, .pointer (some ⟨F.fb, 0, none⟩)), (3, .int .i64 ↑i), (4, .int .i64 ↑k), (29, .bool (decide ((↑k : Int) < ↑i)))] 3 0 hS (by kernel_rfl) (by kernel_rfl) (by kernel_rfl) .nil fun a hS => ?_
    refine seg_end ?_
    refine hK13 _ _ ?_
    refine cond_b hS rfl (fun hb14 => ?_) (fun hb14 => ?_)
    · -- decide ((↑k : Int) < ↑i) is true
      replace hb14 := of_decide_eq_true hb14
      have hk : k < i := by omega
      obtain ⟨q, hq⟩ : ∃ q, F.L[k]? = some q := ⟨_, List.getElem?_eq_getElem (by omega)⟩
      have hqm := List.mem_of_getElem? hq
      have hinj := hF.inj k i q r hk hq hr
      have hrowq2 := (hF2.ok.one q hqm).row
      have hBq2 : Blk w2 q.rb 40 #[.int .i64 q.k, .int .i64 ↑q.i, .int .i64 q.t.kd, .int .i64 q.t.nn, .int .i64 q.t.lk, .int .i64 q.t.ls, .int .i64 q.t.ll, .int .i64 q.t.lr, q.kv, .int .i64 q.t.tt] := (hF2.ok.one q hqm).blk
      have hTq2 : Blk w2 q.t.b 106 #[.pointer (some ⟨(sOf F.s0 F.s1 q.k), 0, none⟩), .int .i64 q.t.num, .int .i64 q.t.kd, .int .i64 q.t.nn, .int .i64 q.t.lk, .int .i64 q.t.ls, .int .i64 q.t.ll, .int .i64 q.t.lr, q.t.ks, .int .i64 q.t.wd, .int .i64 q.t.lf, .int .i64 q.t.tt, .bool q.t.fl] := (hF2.ok.one q hqm).ok.blk
      refine wpIn_skip ?_
      refine hK12 _ _ ?_
      refine wpIn_seq_k fun K15 hK15 => ?_
      refine wpIn_block ?_
      refine wpIn_seq_k fun K16 hK16 => ?_
      rcases Decidable.em (r.k = q.k) with hkk | hkk
      · -- an alternative
        have hlt := hinj hkk.symm
        refine region_fn2 wide_wide [.q .p, .q .p, .q .p, .q (.ld (.slice F.qb F.L.length F.qc)), .q .p, .q (.run (.pointer (some ⟨bof (.slice F.qb F.L.length F.qc), 0 + i * 1, none⟩))), .q (.ld (.pointer (some ⟨r.rb, 0, none⟩))), .q .p, .q .p, .q (.ld (.int .i64 r.k)), .q .p, .q .p, .q .p, .q (.ld (.slice F.qb F.L.length F.qc)), .q .p, .q (.run (.pointer (some ⟨bof (.slice F.qb F.L.length F.qc), 0 + k * 1, none⟩))), .q (.ld (.pointer (some ⟨q.rb, 0, none⟩))), .q .p, .q .p, .q (.ld (.int .i64 q.k)), .q (.as (.bool true)), .q .p, .q .p, .q .p, .q .p, .q (.ld (.slice F.pb F.L.length F.pc)), .q .p, .q (.run (.pointer (some ⟨bof (.slice F.pb F.L.length F.pc), 0 + i * 1, none⟩))), .q (.ld (.pointer (some ⟨r.t.b, 0, none⟩))), .e, .q .p, .q .p, .q .p, .q (.ld (.slice F.pb F.L.length F.pc)), .q .p, .q (.run (.pointer (some ⟨bof (.slice F.pb F.L.length F.pc), 0 + k * 1, none⟩))), .q (.ld (.pointer (some ⟨q.t.b, 0, none⟩))), .e, .q (.as (.bool false)), .q .p] [0, 0, 0, 0, 0, 0, 0, 0, 0, 0, 0, 0, 0, 0, 0, 0, 0, 0, 0, 0, 0, 0, 0, 0, 0, 0, 0, 0, 0, 0, 0, 0, 0, 0, 0, 0, 0, 1, 2, 2] [0, 0, 0, 0, 0, 0, 0, 0, 0, 0, 0, 0, 0, 0, 0, 0, 0, 0, 0, 0, 0, 0, 0, 0, 0, 0, 0, 0, 0, 0, 1, 1, 1, 1, 1, 1, 1, 1, 2, 2] [0, 1, 3, 7, 0, 31, 63, 127, 255, 511, 0, 1024, 3072, 7168, 0, 31744, 64512, 130048, 261120, 523264, 1048575, 2097151, 4194303, 8388607, 16777215, 33554431, 4194303, 134217727, 268435455, 536870911, 4194303, 1077936127, 3225419775, 7520387071, 4194303, 33290190847, 67649929215, 137438953471, 274877906943, 549755813887] [29, 37] 2 ([(0, .pointer (some ⟨F.fb, 0, none⟩)), (3, .int .i64 ↑i), (4, .int .i64 ↑k), (32, .pointer (some ⟨F.fb, 0, none⟩)), (33, .pointer (some ⟨F.fb, 0, none⟩)), (34, .pointer (some ⟨F.fb, 3, none⟩)), (35, .slice F.qb F.L.length F.qc), (36, .int .i64 ↑i), (37, .pointer (some ⟨bof (.slice F.qb F.L.length F.qc), 0 + i * 1, none⟩)), (38, .pointer (some ⟨r.rb, 0, none⟩)), (39, .pointer (some ⟨r.rb, 0, none⟩)), (40, .pointer (some ⟨r.rb, 0, none⟩)), (41, .int .i64 r.k), (42, .pointer (some ⟨F.fb, 0, none⟩)), (43, .pointer (some ⟨F.fb, 0, none⟩)), (44, .pointer (some ⟨F.fb, 3, none⟩)), (45, .slice F.qb F.L.length F.qc), (46, .int .i64 ↑k), (47, .pointer (some ⟨bof (.slice F.qb F.L.length F.qc), 0 + k * 1, none⟩)), (48, .pointer (some ⟨q.rb, 0, none⟩)), (49, .pointer (some ⟨q.rb, 0, none⟩)), (50, .pointer (some ⟨q.rb, 0, none⟩)), (51, .int .i64 q.k), (52, .bool true), (53, .bool true), (54, .pointer (some ⟨F.fb, 0, none⟩)), (55, .pointer (some ⟨F.fb, 0, none⟩)), (56, .pointer (some ⟨F.fb, 2, none⟩)), (57, .slice F.pb F.L.length F.pc), (58, .int .i64 ↑i), (59, .pointer (some ⟨bof (.slice F.pb F.L.length F.pc), 0 + i * 1, none⟩)), (60, .pointer (some ⟨r.t.b, 0, none⟩)), (61, .int .i64 r.t.num), (62, .pointer (some ⟨F.fb, 0, none⟩)), (63, .pointer (some ⟨F.fb, 0, none⟩)), (64, .pointer (some ⟨F.fb, 2, none⟩)), (65, .slice F.pb F.L.length F.pc), (66, .int .i64 ↑k), (67, .pointer (some ⟨bof (.slice F.pb F.L.length F.pc), 0 + k * 1, none⟩)), (68, .pointer (some ⟨q.t.b, 0, none⟩)), (69, .int .i64 q.t.num), (70, .bool false), (71, .bool false)]) [w2.drew, w2.drew, w2.drew] w2.drew (fun w' => [(3, [w'.cell? ⟨F.fb, 3, none⟩ = some (.slice F.qb F.L.length F.qc)]), (5, [Sem.run Try.prog (vS (Instr.indexAt 33 (.slice F.qb F.L.length F.qc) (.int .i64 ↑i))) w' = .ok (.value (.pointer (some ⟨bof (.slice F.qb F.L.length F.qc), 0 + i * 1, none⟩))) w']), (6, [w'.cell? ⟨bof (.slice F.qb F.L.length F.qc), 0 + i * 1, none⟩ = some (.pointer (some ⟨r.rb, 0, none⟩))]), (9, [w'.cell? ⟨r.rb, 0, none⟩ = some (.int .i64 r.k)]), (13, [w'.cell? ⟨F.fb, 3, none⟩ = some (.slice F.qb F.L.length F.qc)]), (15, [Sem.run Try.prog (vS (Instr.indexAt 33 (.slice F.qb F.L.length F.qc) (.int .i64 ↑k))) w' = .ok (.value (.pointer (some ⟨bof (.slice F.qb F.L.length F.qc), 0 + k * 1, none⟩))) w']), (16, [w'.cell? ⟨bof (.slice F.qb F.L.length F.qc), 0 + k * 1, none⟩ = some (.pointer (some ⟨q.rb, 0, none⟩))]), (19, [w'.cell? ⟨q.rb, 0, none⟩ = some (.int .i64 q.k)]), (20, [Value.bool (((r.k : Int) == q.k)) = .bool true]), (25, [w'.cell? ⟨F.fb, 2, none⟩ = some (.slice F.pb F.L.length F.pc)]), (27, [Sem.run Try.prog (vS (Instr.indexAt 32 (.slice F.pb F.L.length F.pc) (.int .i64 ↑i))) w' = .ok (.value (.pointer (some ⟨bof (.slice F.pb F.L.length F.pc), 0 + i * 1, none⟩))) w']), (28, [w'.cell? ⟨bof (.slice F.pb F.L.length F.pc), 0 + i * 1, none⟩ = some (.pointer (some ⟨r.t.b, 0, none⟩))]), (33, [w'.cell? ⟨F.fb, 2, none⟩ = some (.slice F.pb F.L.length F.pc)]), (35, [Sem.run Try.prog (vS (Instr.indexAt 32 (.slice F.pb F.L.length F.pc) (.int .i64 ↑k))) w' = .ok (.value (.pointer (some ⟨bof (.slice F.pb F.L.length F.pc), 0 + k * 1, none⟩))) w']), (36, [w'.cell? ⟨bof (.slice F.pb F.L.length F.pc), 0 + k * 1, none⟩ = some (.pointer (some ⟨q.t.b, 0, none⟩))]), (38, [Value.bool (((r.t.num : Int) == q.t.num)) = .bool false])]) [0, 3, 4] [] hS (by kernel_rfl) (by kernel_rfl) (by kernel_rfl) (by kernel_rfl) (fun _ => by kernel_rfl) (by kernel_rfl) (by kernel_rfl) (by kernel_rfl) ?_ ?_ ?_
        · intro e w' hw
          have ho3 : e = 0 → AllP [w'.cell? ⟨F.fb, 3, none⟩ = some (.slice F.qb F.L.length F.qc)] := fun he => by subst he; obtain rfl : w' = w2.drew := hw.trans (by kernel_rfl); exact (.cons ((hF2.f.drew : Blk w2.drew F.fb 35 (#[.pointer (some ⟨F.s0, 0, none⟩), .pointer (some ⟨F.s1, 0, none⟩), .slice F.pb F.L.length F.pc, .slice F.qb F.L.length F.qc, .slice F.bb F.bn F.bc])).cell 3 rfl) .nil)
          have ho5 : AllP [Sem.run Try.prog (vS (Instr.indexAt 33 (.slice F.qb F.L.length F.qc) (.int .i64 ↑i))) w' = .ok (.value (.pointer (some ⟨bof (.slice F.qb F.L.length F.qc), 0 + i * 1, none⟩))) w'] := (.cons (ix_own (j := i) (hF2.R) (by kernel_rfl) (by kernel_rfl) rfl (by omega)) .nil)
          have ho6 : e = 0 → AllP [w'.cell? ⟨bof (.slice F.qb F.L.length F.qc), 0 + i * 1, none⟩ = some (.pointer (some ⟨r.rb, 0, none⟩))] := fun he => by subst he; obtain rfl : w' = w2.drew := hw.trans (by kernel_rfl); exact (.cons ((hF2.R.drew : OwnV w2.drew 29 1 (.slice F.qb F.L.length F.qc) F.L.length (F.L.map Rf.ptr)).cellAt _ (by simp [hr, Rf.ptr])) .nil)
          have ho9 : e = 0 → AllP [w'.cell? ⟨r.rb, 0, none⟩ = some (.int .i64 r.k)] := fun he => by subst he; obtain rfl : w' = w2.drew := hw.trans (by kernel_rfl); exact (.cons ((hBr2.drew : Blk w2.drew r.rb 40 (#[.int .i64 r.k, .int .i64 ↑r.i, .int .i64 r.t.kd, .int .i64 r.t.nn, .int .i64 r.t.lk, .int .i64 r.t.ls, .int .i64 r.t.ll, .int .i64 r.t.lr, r.kv, .int .i64 r.t.tt])).cell 0 rfl) .nil)
          have ho13 : e = 0 → AllP [w'.cell? ⟨F.fb, 3, none⟩ = some (.slice F.qb F.L.length F.qc)] := fun he => by subst he; obtain rfl : w' = w2.drew := hw.trans (by kernel_rfl); exact (.cons ((hF2.f.drew : Blk w2.drew F.fb 35 (#[.pointer (some ⟨F.s0, 0, none⟩), .pointer (some ⟨F.s1, 0, none⟩), .slice F.pb F.L.length F.pc, .slice F.qb F.L.length F.qc, .slice F.bb F.bn F.bc])).cell 3 rfl) .nil)
          have ho15 : AllP [Sem.run Try.prog (vS (Instr.indexAt 33 (.slice F.qb F.L.length F.qc) (.int .i64 ↑k))) w' = .ok (.value (.pointer (some ⟨bof (.slice F.qb F.L.length F.qc), 0 + k * 1, none⟩))) w'] := (.cons (ix_own (j := k) (hF2.R) (by kernel_rfl) (by kernel_rfl) rfl (by omega)) .nil)
          have ho16 : e = 0 → AllP [w'.cell? ⟨bof (.slice F.qb F.L.length F.qc), 0 + k * 1, none⟩ = some (.pointer (some ⟨q.rb, 0, none⟩))] := fun he => by subst he; obtain rfl : w' = w2.drew := hw.trans (by kernel_rfl); exact (.cons ((hF2.R.drew : OwnV w2.drew 29 1 (.slice F.qb F.L.length F.qc) F.L.length (F.L.map Rf.ptr)).cellAt _ (by simp [hq, Rf.ptr])) .nil)
          have ho19 : e = 0 → AllP [w'.cell? ⟨q.rb, 0, none⟩ = some (.int .i64 q.k)] := fun he => by subst he; obtain rfl : w' = w2.drew := hw.trans (by kernel_rfl); exact (.cons ((hBq2.drew : Blk w2.drew q.rb 40 (#[.int .i64 q.k, .int .i64 ↑q.i, .int .i64 q.t.kd, .int .i64 q.t.nn, .int .i64 q.t.lk, .int .i64 q.t.ls, .int .i64 q.t.ll, .int .i64 q.t.lr, q.kv, .int .i64 q.t.tt])).cell 0 rfl) .nil)
          have ho20 : AllP [Value.bool (((r.k : Int) == q.k)) = .bool true] := (.cons (as_eq_t (hkk)) .nil)
          have ho25 : e = 0 → AllP [w'.cell? ⟨F.fb, 2, none⟩ = some (.slice F.pb F.L.length F.pc)] := fun he => by subst he; obtain rfl : w' = w2.drew := hw.trans (by kernel_rfl); exact (.cons ((hF2.f.drew : Blk w2.drew F.fb 35 (#[.pointer (some ⟨F.s0, 0, none⟩), .pointer (some ⟨F.s1, 0, none⟩), .slice F.pb F.L.length F.pc, .slice F.qb F.L.length F.qc, .slice F.bb F.bn F.bc])).cell 2 rfl) .nil)
          have ho27 : AllP [Sem.run Try.prog (vS (Instr.indexAt 32 (.slice F.pb F.L.length F.pc) (.int .i64 ↑i))) w' = .ok (.value (.pointer (some ⟨bof (.slice F.pb F.L.length F.pc), 0 + i * 1, none⟩))) w'] := (.cons (ix_own (j := i) (hF2.P) (by kernel_rfl) (by kernel_rfl) rfl (by omega)) .nil)
          have ho28 : e = 0 → AllP [w'.cell? ⟨bof (.slice F.pb F.L.length F.pc), 0 + i * 1, none⟩ = some (.pointer (some ⟨r.t.b, 0, none⟩))] := fun he => by subst he; obtain rfl : w' = w2.drew := hw.trans (by kernel_rfl); exact (.cons ((hF2.P.drew : OwnV w2.drew 47 1 (.slice F.pb F.L.length F.pc) F.L.length (F.L.map fun r => r.t.ptr)).cellAt _ (by simp [hr, Tr.ptr])) .nil)
          have ho33 : 0 ≤ e → e ≤ 1 → AllP [w'.cell? ⟨F.fb, 2, none⟩ = some (.slice F.pb F.L.length F.pc)] := fun h1 h2 => by
            have he : e = 0 ∨ e = 1 := by omega
            rcases he with rfl | rfl
            · obtain rfl : w' = w2.drew := hw.trans (by kernel_rfl)
              exact (.cons ((hF2.f.drew : Blk w2.drew F.fb 35 (#[.pointer (some ⟨F.s0, 0, none⟩), .pointer (some ⟨F.s1, 0, none⟩), .slice F.pb F.L.length F.pc, .slice F.qb F.L.length F.qc, .slice F.bb F.bn F.bc])).cell 2 rfl) .nil)
            · obtain rfl : w' = w2.drew := hw.trans (by kernel_rfl)
              exact (.cons ((hF2.f.drew : Blk w2.drew F.fb 35 (#[.pointer (some ⟨F.s0, 0, none⟩), .pointer (some ⟨F.s1, 0, none⟩), .slice F.pb F.L.length F.pc, .slice F.qb F.L.length F.qc, .slice F.bb F.bn F.bc])).cell 2 rfl) .nil)
          have ho35 : AllP [Sem.run Try.prog (vS (Instr.indexAt 32 (.slice F.pb F.L.length F.pc) (.int .i64 ↑k))) w' = .ok (.value (.pointer (some ⟨bof (.slice F.pb F.L.length F.pc), 0 + k * 1, none⟩))) w'] := (.cons (ix_own (j := k) (hF2.P) (by kernel_rfl) (by kernel_rfl) rfl (by omega)) .nil)
          have ho36 : 0 ≤ e → e ≤ 1 → AllP [w'.cell? ⟨bof (.slice F.pb F.L.length F.pc), 0 + k * 1, none⟩ = some (.pointer (some ⟨q.t.b, 0, none⟩))] := fun h1 h2 => by
            have he : e = 0 ∨ e = 1 := by omega
            rcases he with rfl | rfl
            · obtain rfl : w' = w2.drew := hw.trans (by kernel_rfl)
              exact (.cons ((hF2.P.drew : OwnV w2.drew 47 1 (.slice F.pb F.L.length F.pc) F.L.length (F.L.map fun r => r.t.ptr)).cellAt _ (by simp [hq, Tr.ptr])) .nil)
            · obtain rfl : w' = w2.drew := hw.trans (by kernel_rfl)
              exact (.cons ((hF2.P.drew : OwnV w2.drew 47 1 (.slice F.pb F.L.length F.pc) F.L.length (F.L.map fun r => r.t.ptr)).cellAt _ (by simp [hq, Tr.ptr])) .nil)
          have ho38 : AllP [Value.bool (((r.t.num : Int) == q.t.num)) = .bool false] := (.cons (as_eq_f (by omega)) .nil)
          exact (.cons (fun h1 h2 => ho3 (Nat.le_antisymm h2 h1)) (.cons (fun _ _ => ho5) (.cons (fun h1 h2 => ho6 (Nat.le_antisymm h2 h1)) (.cons (fun h1 h2 => ho9 (Nat.le_antisymm h2 h1)) (.cons (fun h1 h2 => ho13 (Nat.le_antisymm h2 h1)) (.cons (fun _ _ => ho15) (.cons (fun h1 h2 => ho16 (Nat.le_antisymm h2 h1)) (.cons (fun h1 h2 => ho19 (Nat.le_antisymm h2 h1)) (.cons (fun _ _ => ho20) (.cons (fun h1 h2 => ho25 (Nat.le_antisymm h2 h1)) (.cons (fun _ _ => ho27) (.cons (fun h1 h2 => ho28 (Nat.le_antisymm h2 h1)) (.cons (fun h1 h2 => ho33 h1 h2) (.cons (fun _ _ => ho35) (.cons (fun h1 h2 => ho36 h1 h2) (.cons (fun _ _ => ho38) .nil))))))))))))))))
        · refine (.cons ?eq17_29 (.cons ?eq17_37 .nil))
          · refine eff_at (w2.drew) (w2.drew) (by kernel_rfl) (by kernel_rfl) ?_
            refine upon_call (f := 31) (vs := [.pointer (some ⟨r.t.b, 0, none⟩)]) (cap := #[]) (d := (some 61)) (by kernel_rfl) Try.call31 #[.pointer (some ⟨r.t.b, 0, none⟩)] (by kernel_rfl) (Number_any (hTr2.drew : Blk w2.drew r.t.b 106 (#[.pointer (some ⟨(sOf F.s0 F.s1 r.k), 0, none⟩), .int .i64 r.t.num, .int .i64 r.t.kd, .int .i64 r.t.nn, .int .i64 r.t.lk, .int .i64 r.t.ls, .int .i64 r.t.ll, .int .i64 r.t.lr, r.t.ks, .int .i64 r.t.wd, .int .i64 r.t.lf, .int .i64 r.t.tt, .bool r.t.fl]))) ?_
            rintro _ _ ⟨rfl, rfl⟩
            exact ⟨_, rfl, ⟨by kernel_rfl, by kernel_rfl⟩⟩
          · refine eff_at (w2.drew) (w2.drew) (by kernel_rfl) (by kernel_rfl) ?_
            refine upon_call (f := 31) (vs := [.pointer (some ⟨q.t.b, 0, none⟩)]) (cap := #[]) (d := (some 69)) (by kernel_rfl) Try.call31 #[.pointer (some ⟨q.t.b, 0, none⟩)] (by kernel_rfl) (Number_any (hTq2.drew : Blk w2.drew q.t.b 106 (#[.pointer (some ⟨(sOf F.s0 F.s1 q.k), 0, none⟩), .int .i64 q.t.num, .int .i64 q.t.kd, .int .i64 q.t.nn, .int .i64 q.t.lk, .int .i64 q.t.ls, .int .i64 q.t.ll, .int .i64 q.t.lr, q.t.ks, .int .i64 q.t.wd, .int .i64 q.t.lf, .int .i64 q.t.tt, .bool q.t.fl]))) ?_
            rintro _ _ ⟨rfl, rfl⟩
            exact ⟨_, rfl, ⟨by kernel_rfl, by kernel_rfl⟩⟩
        rintro a w18 hS hw19
        replace hw19 : w18 = w2.drew := hw19.trans (by kernel_rfl)
        have hB20 : Blk w18 F.fb 35 (#[.pointer (some ⟨F.s0, 0, none⟩), .pointer (some ⟨F.s1, 0, none⟩), .slice F.pb F.L.length F.pc, .slice F.qb F.L.length F.qc, .slice F.bb F.bn F.bc]) := by rw [hw19]; exact hF2.f.drew
        have hB21 : OwnV w18 47 1 (.slice F.pb F.L.length F.pc) F.L.length (F.L.map fun r => r.t.ptr) := by rw [hw19]; exact hF2.P.drew
        have hB22 : OwnV w18 29 1 (.slice F.qb F.L.length F.qc) F.L.length (F.L.map Rf.ptr) := by rw [hw19]; exact hF2.R.drew
        have hB23 : Blk w18 r.rb 40 (#[.int .i64 r.k, .int .i64 ↑r.i, .int .i64 r.t.kd, .int .i64 r.t.nn, .int .i64 r.t.lk, .int .i64 r.t.ls, .int .i64 r.t.ll, .int .i64 r.t.lr, r.kv, .int .i64 r.t.tt]) := by rw [hw19]; exact hBr2.drew
        have hB24 : Blk w18 r.t.b 106 (#[.pointer (some ⟨(sOf F.s0 F.s1 r.k), 0, none⟩), .int .i64 r.t.num, .int .i64 r.t.kd, .int .i64 r.t.nn, .int .i64 r.t.lk, .int .i64 r.t.ls, .int .i64 r.t.ll, .int .i64 r.t.lr, r.t.ks, .int .i64 r.t.wd, .int .i64 r.t.lf, .int .i64 r.t.tt, .bool r.t.fl]) := by rw [hw19]; exact hTr2.drew
        have hB25 : Blk w18 q.rb 40 (#[.int .i64 q.k, .int .i64 ↑q.i, .int .i64 q.t.kd, .int .i64 q.t.nn, .int .i64 q.t.lk, .int .i64 q.t.ls, .int .i64 q.t.ll, .int .i64 q.t.lr, q.kv, .int .i64 q.t.tt]) := by rw [hw19]; exact hBq2.drew
        have hB26 : Blk w18 q.t.b 106 (#[.pointer (some ⟨(sOf F.s0 F.s1 q.k), 0, none⟩), .int .i64 q.t.num, .int .i64 q.t.kd, .int .i64 q.t.nn, .int .i64 q.t.lk, .int .i64 q.t.ls, .int .i64 q.t.ll, .int .i64 q.t.lr, q.t.ks, .int .i64 q.t.wd, .int .i64 q.t.lf, .int .i64 q.t.tt, .bool q.t.fl]) := by rw [hw19]; exact hTq2.drew
        have hE27 : Ext [] w w18 := by rw [hw19]; exact hEz.drew
        replace hS := hS.keepTo [0, 3, 4, 71] (m' := [(0, .pointer (some ⟨F.fb, 0, none⟩)), (3, .int .i64 ↑i), (4, .int .i64 ↑k), (71, .bool false)]) (by kernel_rfl)
        refine hK16 _ _ ?_
        refine cond_f hS rfl ?_
        refine wpIn_skip ?_
        refine inBlock_normal ?_
        refine hK15 _ _ ?_
        refine region 3 (by kernel_rfl) ?_
        refine seg wide_wide [.p, .as (.int .i64 (↑k + 1)), .p] [0, 3, 4, 71] [Value.int .i64 (IntKind.i64.wrap (↑k + 1)) = .int .i64 (↑k + 1)] [(0, .pointer (some ⟨F.fb, 0, none⟩)), (3, .int .i64 ↑i), (4, .int .i64 (↑k + 1)), (71, .bool false)] 3 0 hS (by kernel_rfl) (by kernel_rfl) (by kernel_rfl) (.cons (as_i64 (by omega)) .nil) fun a hS => ?_
        refine seg_end ?_
        exact ⟨k + 1, ⟨hS.keepTo [0, 3, 4] (by kernel_rfl), by omega, hE27⟩, by omega⟩
      · -- an alternative
        refine region_fn2 wide_wide [.q .p, .q .p, .q .p, .q (.ld (.slice F.qb F.L.length F.qc)), .q .p, .q (.run (.pointer (some ⟨bof (.slice F.qb F.L.length F.qc), 0 + i * 1, none⟩))), .q (.ld (.pointer (some ⟨r.rb, 0, none⟩))), .q .p, .q .p, .q (.ld (.int .i64 r.k)), .q .p, .q .p, .q .p, .q (.ld (.slice F.qb F.L.length F.qc)), .q .p, .q (.run (.pointer (some ⟨bof (.slice F.qb F.L.length F.qc), 0 + k * 1, none⟩))), .q (.ld (.pointer (some ⟨q.rb, 0, none⟩))), .q .p, .q .p, .q (.ld (.int .i64 q.k)), .q (.as (.bool false)), .q .p, .q .no, .q .no, .q .no, .q .no, .q .no, .q .no, .q .no, .q .no, .q .no, .q .no, .q .no, .q .no, .q .no, .q .no, .q .no, .q .no, .q .no, .q .p] [0, 0, 0, 0, 0, 0, 0, 0, 0, 0, 0, 0, 0, 0, 0, 0, 0, 0, 0, 0, 0, 0, 0, 0, 0, 0, 0, 0, 0, 0, 0, 0, 0, 0, 0, 0, 0, 0, 0, 0] [0, 0, 0, 0, 0, 0, 0, 0, 0, 0, 0, 0, 0, 0, 0, 0, 0, 0, 0, 0, 0, 0, 0, 0, 0, 0, 0, 0, 0, 0, 0, 0, 0, 0, 0, 0, 0, 0, 0, 0] [0, 1, 3, 7, 0, 31, 63, 127, 255, 511, 0, 1024, 3072, 7168, 0, 31744, 64512, 130048, 261120, 523264, 1048575, 2097151, 4194303, 8388607, 16777215, 33554431, 4194303, 134217727, 268435455, 536870911, 4194303, 1077936127, 3225419775, 7520387071, 4194303, 33290190847, 67649929215, 137438953471, 274877906943, 549755813887] [] 0 ([(0, .pointer (some ⟨F.fb, 0, none⟩)), (3, .int .i64 ↑i), (4, .int .i64 ↑k), (32, .pointer (some ⟨F.fb, 0, none⟩)), (33, .pointer (some ⟨F.fb, 0, none⟩)), (34, .pointer (some ⟨F.fb, 3, none⟩)), (35, .slice F.qb F.L.length F.qc), (36, .int .i64 ↑i), (37, .pointer (some ⟨bof (.slice F.qb F.L.length F.qc), 0 + i * 1, none⟩)), (38, .pointer (some ⟨r.rb, 0, none⟩)), (39, .pointer (some ⟨r.rb, 0, none⟩)), (40, .pointer (some ⟨r.rb, 0, none⟩)), (41, .int .i64 r.k), (42, .pointer (some ⟨F.fb, 0, none⟩)), (43, .pointer (some ⟨F.fb, 0, none⟩)), (44, .pointer (some ⟨F.fb, 3, none⟩)), (45, .slice F.qb F.L.length F.qc), (46, .int .i64 ↑k), (47, .pointer (some ⟨bof (.slice F.qb F.L.length F.qc), 0 + k * 1, none⟩)), (48, .pointer (some ⟨q.rb, 0, none⟩)), (49, .pointer (some ⟨q.rb, 0, none⟩)), (50, .pointer (some ⟨q.rb, 0, none⟩)), (51, .int .i64 q.k), (52, .bool false), (53, .bool false), (54, undef), (55, undef), (56, undef), (57, undef), (58, undef), (59, undef), (60, undef), (61, undef), (62, undef), (63, undef), (64, undef), (65, undef), (66, undef), (67, undef), (68, undef), (69, undef), (70, undef), (71, .bool false)]) [w2.drew] w2.drew (fun w' => [(3, [w'.cell? ⟨F.fb, 3, none⟩ = some (.slice F.qb F.L.length F.qc)]), (5, [Sem.run Try.prog (vS (Instr.indexAt 33 (.slice F.qb F.L.length F.qc) (.int .i64 ↑i))) w' = .ok (.value (.pointer (some ⟨bof (.slice F.qb F.L.length F.qc), 0 + i * 1, none⟩))) w']), (6, [w'.cell? ⟨bof (.slice F.qb F.L.length F.qc), 0 + i * 1, none⟩ = some (.pointer (some ⟨r.rb, 0, none⟩))]), (9, [w'.cell? ⟨r.rb, 0, none⟩ = some (.int .i64 r.k)]), (13, [w'.cell? ⟨F.fb, 3, none⟩ = some (.slice F.qb F.L.length F.qc)]), (15, [Sem.run Try.prog (vS (Instr.indexAt 33 (.slice F.qb F.L.length F.qc) (.int .i64 ↑k))) w' = .ok (.value (.pointer (some ⟨bof (.slice F.qb F.L.length F.qc), 0 + k * 1, none⟩))) w']), (16, [w'.cell? ⟨bof (.slice F.qb F.L.length F.qc), 0 + k * 1, none⟩ = some (.pointer (some ⟨q.rb, 0, none⟩))]), (19, [w'.cell? ⟨q.rb, 0, none⟩ = some (.int .i64 q.k)]), (20, [Value.bool (((r.k : Int) == q.k)) = .bool false])]) [0, 3, 4] [] hS (by kernel_rfl) (by kernel_rfl) (by kernel_rfl) (by kernel_rfl) (fun _ => by kernel_rfl) (by kernel_rfl) (by kernel_rfl) (by kernel_rfl) ?_ ?_ ?_
        · intro e w' hw
          have ho3 : e = 0 → AllP [w'.cell? ⟨F.fb, 3, none⟩ = some (.slice F.qb F.L.length F.qc)] := fun he => by subst he; obtain rfl : w' = w2.drew := hw.trans (by kernel_rfl); exact (.cons ((hF2.f.drew : Blk w2.drew F.fb 35 (#[.pointer (some ⟨F.s0, 0, none⟩), .pointer (some ⟨F.s1, 0, none⟩), .slice F.pb F.L.length F.pc, .slice F.qb F.L.length F.qc, .slice F.bb F.bn F.bc])).cell 3 rfl) .nil)
          have ho5 : AllP [Sem.run Try.prog (vS (Instr.indexAt 33 (.slice F.qb F.L.length F.qc) (.int .i64 ↑i))) w' = .ok (.value (.pointer (some ⟨bof (.slice F.qb F.L.length F.qc), 0 + i * 1, none⟩))) w'] := (.cons (ix_own (j := i) (hF2.R) (by kernel_rfl) (by kernel_rfl) rfl (by omega)) .nil)
          have ho6 : e = 0 → AllP [w'.cell? ⟨bof (.slice F.qb F.L.length F.qc), 0 + i * 1, none⟩ = some (.pointer (some ⟨r.rb, 0, none⟩))] := fun he => by subst he; obtain rfl : w' = w2.drew := hw.trans (by kernel_rfl); exact (.cons ((hF2.R.drew : OwnV w2.drew 29 1 (.slice F.qb F.L.length F.qc) F.L.length (F.L.map Rf.ptr)).cellAt _ (by simp [hr, Rf.ptr])) .nil)
          have ho9 : e = 0 → AllP [w'.cell? ⟨r.rb, 0, none⟩ = some (.int .i64 r.k)] := fun he => by subst he; obtain rfl : w' = w2.drew := hw.trans (by kernel_rfl); exact (.cons ((hBr2.drew : Blk w2.drew r.rb 40 (#[.int .i64 r.k, .int .i64 ↑r.i, .int .i64 r.t.kd, .int .i64 r.t.nn, .int .i64 r.t.lk, .int .i64 r.t.ls, .int .i64 r.t.ll, .int .i64 r.t.lr, r.kv, .int .i64 r.t.tt])).cell 0 rfl) .nil)
          have ho13 : e = 0 → AllP [w'.cell? ⟨F.fb, 3, none⟩ = some (.slice F.qb F.L.length F.qc)] := fun he => by subst he; obtain rfl : w' = w2.drew := hw.trans (by kernel_rfl); exact (.cons ((hF2.f.drew : Blk w2.drew F.fb 35 (#[.pointer (some ⟨F.s0, 0, none⟩), .pointer (some ⟨F.s1, 0, none⟩), .slice F.pb F.L.length F.pc, .slice F.qb F.L.length F.qc, .slice F.bb F.bn F.bc])).cell 3 rfl) .nil)
          have ho15 : AllP [Sem.run Try.prog (vS (Instr.indexAt 33 (.slice F.qb F.L.length F.qc) (.int .i64 ↑k))) w' = .ok (.value (.pointer (some ⟨bof (.slice F.qb F.L.length F.qc), 0 + k * 1, none⟩))) w'] := (.cons (ix_own (j := k) (hF2.R) (by kernel_rfl) (by kernel_rfl) rfl (by omega)) .nil)
          have ho16 : e = 0 → AllP [w'.cell? ⟨bof (.slice F.qb F.L.length F.qc), 0 + k * 1, none⟩ = some (.pointer (some ⟨q.rb, 0, none⟩))] := fun he => by subst he; obtain rfl : w' = w2.drew := hw.trans (by kernel_rfl); exact (.cons ((hF2.R.drew : OwnV w2.drew 29 1 (.slice F.qb F.L.length F.qc) F.L.length (F.L.map Rf.ptr)).cellAt _ (by simp [hq, Rf.ptr])) .nil)
          have ho19 : e = 0 → AllP [w'.cell? ⟨q.rb, 0, none⟩ = some (.int .i64 q.k)] := fun he => by subst he; obtain rfl : w' = w2.drew := hw.trans (by kernel_rfl); exact (.cons ((hBq2.drew : Blk w2.drew q.rb 40 (#[.int .i64 q.k, .int .i64 ↑q.i, .int .i64 q.t.kd, .int .i64 q.t.nn, .int .i64 q.t.lk, .int .i64 q.t.ls, .int .i64 q.t.ll, .int .i64 q.t.lr, q.kv, .int .i64 q.t.tt])).cell 0 rfl) .nil)
          have ho20 : AllP [Value.bool (((r.k : Int) == q.k)) = .bool false] := (.cons (as_eq_f (hkk)) .nil)
          exact (.cons (fun h1 h2 => ho3 (Nat.le_antisymm h2 h1)) (.cons (fun _ _ => ho5) (.cons (fun h1 h2 => ho6 (Nat.le_antisymm h2 h1)) (.cons (fun h1 h2 => ho9 (Nat.le_antisymm h2 h1)) (.cons (fun h1 h2 => ho13 (Nat.le_antisymm h2 h1)) (.cons (fun _ _ => ho15) (.cons (fun h1 h2 => ho16 (Nat.le_antisymm h2 h1)) (.cons (fun h1 h2 => ho19 (Nat.le_antisymm h2 h1)) (.cons (fun _ _ => ho20) .nil)))))))))
        · refine .nil
        rintro a w29 hS hw30
        replace hw30 : w29 = w2.drew := hw30.trans (by kernel_rfl)
        have hB31 : Blk w29 F.fb 35 (#[.pointer (some ⟨F.s0, 0, none⟩), .pointer (some ⟨F.s1, 0, none⟩), .slice F.pb F.L.length F.pc, .slice F.qb F.L.length F.qc, .slice F.bb F.bn F.bc]) := by rw [hw30]; exact hF2.f.drew
        have hB32 : OwnV w29 47 1 (.slice F.pb F.L.length F.pc) F.L.length (F.L.map fun r => r.t.ptr) := by rw [hw30]; exact hF2.P.drew
        have hB33 : OwnV w29 29 1 (.slice F.qb F.L.length F.qc) F.L.length (F.L.map Rf.ptr) := by rw [hw30]; exact hF2.R.drew
        have hB34 : Blk w29 r.rb 40 (#[.int .i64 r.k, .int .i64 ↑r.i, .int .i64 r.t.kd, .int .i64 r.t.nn, .int .i64 r.t.lk, .int .i64 r.t.ls, .int .i64 r.t.ll, .int .i64 r.t.lr, r.kv, .int .i64 r.t.tt]) := by rw [hw30]; exact hBr2.drew
        have hB35 : Blk w29 r.t.b 106 (#[.pointer (some ⟨(sOf F.s0 F.s1 r.k), 0, none⟩), .int .i64 r.t.num, .int .i64 r.t.kd, .int .i64 r.t.nn, .int .i64 r.t.lk, .int .i64 r.t.ls, .int .i64 r.t.ll, .int .i64 r.t.lr, r.t.ks, .int .i64 r.t.wd, .int .i64 r.t.lf, .int .i64 r.t.tt, .bool r.t.fl]) := by rw [hw30]; exact hTr2.drew
        have hB36 : Blk w29 q.rb 40 (#[.int .i64 q.k, .int .i64 ↑q.i, .int .i64 q.t.kd, .int .i64 q.t.nn, .int .i64 q.t.lk, .int .i64 q.t.ls, .int .i64 q.t.ll, .int .i64 q.t.lr, q.kv, .int .i64 q.t.tt]) := by rw [hw30]; exact hBq2.drew
        have hB37 : Blk w29 q.t.b 106 (#[.pointer (some ⟨(sOf F.s0 F.s1 q.k), 0, none⟩), .int .i64 q.t.num, .int .i64 q.t.kd, .int .i64 q.t.nn, .int .i64 q.t.lk, .int .i64 q.t.ls, .int .i64 q.t.ll, .int .i64 q.t.lr, q.t.ks, .int .i64 q.t.wd, .int .i64 q.t.lf, .int .i64 q.t.tt, .bool q.t.fl]) := by rw [hw30]; exact hTq2.drew
        have hE38 : Ext [] w w29 := by rw [hw30]; exact hEz.drew
        replace hS := hS.keepTo [0, 3, 4, 71] (m' := [(0, .pointer (some ⟨F.fb, 0, none⟩)), (3, .int .i64 ↑i), (4, .int .i64 ↑k), (71, .bool false)]) (by kernel_rfl)
        refine hK16 _ _ ?_
        refine cond_f hS rfl ?_
        refine wpIn_skip ?_
        refine inBlock_normal ?_
        refine hK15 _ _ ?_
        refine region 3 (by kernel_rfl) ?_
        refine seg wide_wide [.p, .as (.int .i64 (↑k + 1)), .p] [0, 3, 4, 71] [Value.int .i64 (IntKind.i64.wrap (↑k + 1)) = .int .i64 (↑k + 1)] [(0, .pointer (some ⟨F.fb, 0, none⟩)), (3, .int .i64 ↑i), (4, .int .i64 (↑k + 1)), (71, .bool false)] 3 0 hS (by kernel_rfl) (by kernel_rfl) (by kernel_rfl) (.cons (as_i64 (by omega)) .nil) fun a hS => ?_
        refine seg_end ?_
        exact ⟨k + 1, ⟨hS.keepTo [0, 3, 4] (by kernel_rfl), by omega, hE38⟩, by omega⟩
    · -- decide ((↑k : Int) < ↑i) is false
      replace hb14 := of_decide_eq_false hb14
      refine wpIn_exit ?_
      refine then_exit ?_
      refine then_exit ?_
      refine inBlock_hit ?_
      refine inBlock_normal ?_
      refine hK8 _ _ ?_
      refine region 3 (by kernel_rfl) ?_
      refine seg wide_wide [.p, .as (.int .i64 (↑i + 1)), .p] [0, 3] [Value.int .i64 (IntKind.i64.wrap (↑i + 1)) = .int .i64 (↑i + 1)] [(0, .pointer (some ⟨F.fb, 0, none⟩)), (3, .int .i64 (↑i + 1))] 3 0 hS (by kernel_rfl) (by kernel_rfl) (by kernel_rfl) (.cons (as_i64 (by omega)) .nil) fun a hS => ?_
      refine seg_end ?_
      exact ⟨i + 1, ⟨hS.keepTo [0, 3] (by kernel_rfl), hEz⟩, by omega⟩

set_option maxHeartbeats 4000000 in
theorem Asked_any {N m : Nat} {w : World} {F : Fo} (hF : FI N m w F) {i : Nat} {r : Rf} (hr : F.L[i]? = some r) :
    Calls Try.prog 35 #[.pointer (some ⟨F.fb, 0, none⟩), .int .i64 ↑i] w fun e w' => e = .returned (.bool true) ∧ Ext [] w w' := by
  have hi : i < F.L.length := (List.getElem?_eq_some_iff.1 hr).1
  have hrm := List.mem_of_getElem? hr
  have hkl := hF.ok.klen hrm
  have htt := hF.ok.tt hrm
  have hkk := hF.ok.kids_le hrm
  refine calls_body 207 [(0, .pointer (some ⟨F.fb, 0, none⟩)), (1, .int .i64 ↑i)] Try.func35 rfl (by kernel_rfl) (by kernel_rfl) (by kernel_rfl) fun a hS => ?_
  have hE0 : Ext [] w w := Ext.refl _ _
  refine wpIn_seq_k fun K1 hK1 => ?_
  refine region 1 (by kernel_rfl) ?_
  refine seg wide_wide [.p] [0, 1, 4] [] [(0, .pointer (some ⟨F.fb, 0, none⟩)), (1, .int .i64 ↑i), (4, .bool false)] 1 0 hS (by kernel_rfl) (by kernel_rfl) (by kernel_rfl) .nil fun a hS => ?_
  refine seg_end ?_
  refine hK1 _ _ ?_
  refine wpIn_seq_k fun K2 hK2 => ?_
  have hrowr := (hF.ok.one r hrm).row
  have hBr : Blk w r.rb 40 #[.int .i64 r.k, .int .i64 ↑r.i, .int .i64 r.t.kd, .int .i64 r.t.nn, .int .i64 r.t.lk, .int .i64 r.t.ls, .int .i64 r.t.ll, .int .i64 r.t.lr, r.kv, .int .i64 r.t.tt] := (hF.ok.one r hrm).blk
  have hTr : Blk w r.t.b 106 #[.pointer (some ⟨(sOf F.s0 F.s1 r.k), 0, none⟩), .int .i64 r.t.num, .int .i64 r.t.kd, .int .i64 r.t.nn, .int .i64 r.t.lk, .int .i64 r.t.ls, .int .i64 r.t.ll, .int .i64 r.t.lr, r.t.ks, .int .i64 r.t.wd, .int .i64 r.t.lf, .int .i64 r.t.tt, .bool r.t.fl] := (hF.ok.one r hrm).ok.blk
  refine region 8 (by kernel_rfl) ?_
  refine seg wide_wide [.p, .p, .p, .ld (.slice F.pb F.L.length F.pc), .p, .run (.pointer (some ⟨bof (.slice F.pb F.L.length F.pc), 0 + i * 1, none⟩)), .ld (.pointer (some ⟨r.t.b, 0, none⟩)), .p] [0, 1, 4, 5] [w.cell? ⟨F.fb, 2, none⟩ = some (.slice F.pb F.L.length F.pc), Sem.run Try.prog (vS (Instr.indexAt 32 (.slice F.pb F.L.length F.pc) (.int .i64 ↑i))) w = .ok (.value (.pointer (some ⟨bof (.slice F.pb F.L.length F.pc), 0 + i * 1, none⟩))) w, w.cell? ⟨bof (.slice F.pb F.L.length F.pc), 0 + i * 1, none⟩ = some (.pointer (some ⟨r.t.b, 0, none⟩))] [(0, .pointer (some ⟨F.fb, 0, none⟩)), (1, .int .i64 ↑i), (4, .bool false), (5, .pointer (some ⟨r.t.b, 0, none⟩))] 8 0 hS (by kernel_rfl) (by kernel_rfl) (by kernel_rfl) (.cons ((hF.f).cell 2 rfl) (.cons (ix_own (j := i) (hF.P) (by kernel_rfl) (by kernel_rfl) rfl hi) (.cons ((hF.P).cellAt _ (by simp [hr, Tr.ptr])) .nil))) fun a hS => ?_
  refine seg_end ?_
  refine hK2 _ _ ?_
  refine wpIn_seq_k fun K3 hK3 => ?_
  refine region 8 (by kernel_rfl) ?_
  refine seg wide_wide [.p, .p, .p, .ld (.slice F.qb F.L.length F.qc), .p, .run (.pointer (some ⟨bof (.slice F.qb F.L.length F.qc), 0 + i * 1, none⟩)), .ld (.pointer (some ⟨r.rb, 0, none⟩)), .p] [0, 1, 4, 5, 6] [w.cell? ⟨F.fb, 3, none⟩ = some (.slice F.qb F.L.length F.qc), Sem.run Try.prog (vS (Instr.indexAt 33 (.slice F.qb F.L.length F.qc) (.int .i64 ↑i))) w = .ok (.value (.pointer (some ⟨bof (.slice F.qb F.L.length F.qc), 0 + i * 1, none⟩))) w, w.cell? ⟨bof (.slice F.qb F.L.length F.qc), 0 + i * 1, none⟩ = some (.pointer (some ⟨r.rb, 0, none⟩))] [(0, .pointer (some ⟨F.fb, 0, none⟩)), (1, .int .i64 ↑i), (4, .bool false), (5, .pointer (some ⟨r.t.b, 0, none⟩)), (6, .pointer (some ⟨r.rb, 0, none⟩))] 8 0 hS (by kernel_rfl) (by kernel_rfl) (by kernel_rfl) (.cons ((hF.f).cell 3 rfl) (.cons (ix_own (j := i) (hF.R) (by kernel_rfl) (by kernel_rfl) rfl hi) (.cons ((hF.R).cellAt _ (by simp [hr, Rf.ptr])) .nil))) fun a hS => ?_
  refine seg_end ?_
  refine hK3 _ _ ?_
  refine wpIn_seq_k fun K4 hK4 => ?_
  refine region 8 (by kernel_rfl) ?_
  refine seg wide_wide [.p] [0, 1, 4, 5, 6, 33] [] [(0, .pointer (some ⟨F.fb, 0, none⟩)), (1, .int .i64 ↑i), (4, .bool false), (5, .pointer (some ⟨r.t.b, 0, none⟩)), (6, .pointer (some ⟨r.rb, 0, none⟩)), (33, .pointer (some ⟨r.t.b, 0, none⟩))] 1 7 hS (by kernel_rfl) (by kernel_rfl) (by kernel_rfl) .nil fun a hS => ?_
  refine eff_call wide_wide (r := 6) (f := 62) (vs := [.pointer (some ⟨r.t.b, 0, none⟩)]) (cap := #[]) (d := (some 34)) hS (by kernel_rfl) Try.call62 #[.pointer (some ⟨r.t.b, 0, none⟩)] (by kernel_rfl) (NLeaf_any (hTr : Blk w r.t.b 106 (#[.pointer (some ⟨(sOf F.s0 F.s1 r.k), 0, none⟩), .int .i64 r.t.num, .int .i64 r.t.kd, .int .i64 r.t.nn, .int .i64 r.t.lk, .int .i64 r.t.ls, .int .i64 r.t.ll, .int .i64 r.t.lr, r.t.ks, .int .i64 r.t.wd, .int .i64 r.t.lf, .int .i64 r.t.tt, .bool r.t.fl]))) ?_
  rintro _ w62 ⟨rfl, hE62⟩
  refine ⟨_, rfl, fun a hS => ?_⟩
  have hE5 := hE0.trans0 hE62
  have hB6 : Blk w62 F.fb 35 (#[.pointer (some ⟨F.s0, 0, none⟩), .pointer (some ⟨F.s1, 0, none⟩), .slice F.pb F.L.length F.pc, .slice F.qb F.L.length F.qc, .slice F.bb F.bn F.bc]) := hF.f.ext hE62 (by simp)
  have hB7 : OwnV w62 47 1 (.slice F.pb F.L.length F.pc) F.L.length (F.L.map fun r => r.t.ptr) := hF.P.ext hE62 (by simp)
  have hB8 : OwnV w62 29 1 (.slice F.qb F.L.length F.qc) F.L.length (F.L.map Rf.ptr) := hF.R.ext hE62 (by simp)
  have hB9 : Blk w62 r.rb 40 (#[.int .i64 r.k, .int .i64 ↑r.i, .int .i64 r.t.kd, .int .i64 r.t.nn, .int .i64 r.t.lk, .int .i64 r.t.ls, .int .i64 r.t.ll, .int .i64 r.t.lr, r.kv, .int .i64 r.t.tt]) := hBr.ext hE62 (by simp)
  have hB10 : Blk w62 r.t.b 106 (#[.pointer (some ⟨(sOf F.s0 F.s1 r.k), 0, none⟩), .int .i64 r.t.num, .int .i64 r.t.kd, .int .i64 r.t.nn, .int .i64 r.t.lk, .int .i64 r.t.ls, .int .i64 r.t.ll, .int .i64 r.t.lr, r.t.ks, .int .i64 r.t.wd, .int .i64 r.t.lf, .int .i64 r.t.tt, .bool r.t.fl]) := hTr.ext hE62 (by simp)
  refine seg wide_wide [.p, .p, .p] [0, 1, 4, 5, 6, 35, 36] [] [(0, .pointer (some ⟨F.fb, 0, none⟩)), (1, .int .i64 ↑i), (4, .bool false), (5, .pointer (some ⟨r.t.b, 0, none⟩)), (6, .pointer (some ⟨r.rb, 0, none⟩)), (35, .agg #[.int .i64 r.t.lk, .int .i64 r.t.ls, .int .i64 r.t.ll, .int .i64 r.t.lr]), (36, .bool ((r.t.kd : Int) == 1))] 5 3 hS (by kernel_rfl) (by kernel_rfl) (by kernel_rfl) .nil fun a hS => ?_
  refine eff_box wide_wide (r := 2) (cs := #[.int .i64 0, .int .i64 0, .int .i64 0, .int .i64 0]) (T := 38) (d := (some 7)) hS (by kernel_rfl) fun a w11 hw12 hS => ?_
  have hn13 : F.fb ≠ w62.heap.size := Nat.ne_of_lt hB6.lt
  have hn14 : ∀ x ∈ ob (.slice F.pb F.L.length F.pc), w62.heap.size ≠ x := fun x hx => Nat.ne_of_gt (hB7.lie x hx)
  have hn15 : ∀ x ∈ ob (.slice F.qb F.L.length F.qc), w62.heap.size ≠ x := fun x hx => Nat.ne_of_gt (hB8.lie x hx)
  have hn16 : r.rb ≠ w62.heap.size := Nat.ne_of_lt hB9.lt
  have hn17 : r.t.b ≠ w62.heap.size := Nat.ne_of_lt hB10.lt
  have hB18 : Blk w11 F.fb 35 (#[.pointer (some ⟨F.s0, 0, none⟩), .pointer (some ⟨F.s1, 0, none⟩), .slice F.pb F.L.length F.pc, .slice F.qb F.L.length F.qc, .slice F.bb F.bn F.bc]) := by rw [hw12]; exact hB6.alloc _
  have hB19 : OwnV w11 47 1 (.slice F.pb F.L.length F.pc) F.L.length (F.L.map fun r => r.t.ptr) := by rw [hw12]; exact hB7.alloc _
  have hB20 : OwnV w11 29 1 (.slice F.qb F.L.length F.qc) F.L.length (F.L.map Rf.ptr) := by rw [hw12]; exact hB8.alloc _
  have hB21 : Blk w11 r.rb 40 (#[.int .i64 r.k, .int .i64 ↑r.i, .int .i64 r.t.kd, .int .i64 r.t.nn, .int .i64 r.t.lk, .int .i64 r.t.ls, .int .i64 r.t.ll, .int .i64 r.t.lr, r.kv, .int .i64 r.t.tt]) := by rw [hw12]; exact hB9.alloc _
  have hB22 : Blk w11 r.t.b 106 (#[.pointer (some ⟨(sOf F.s0 F.s1 r.k), 0, none⟩), .int .i64 r.t.num, .int .i64 r.t.kd, .int .i64 r.t.nn, .int .i64 r.t.lk, .int .i64 r.t.ls, .int .i64 r.t.ll, .int .i64 r.t.lr, r.t.ks, .int .i64 r.t.wd, .int .i64 r.t.lf, .int .i64 r.t.tt, .bool r.t.fl]) := by rw [hw12]; exact hB10.alloc _
  have hB23 : Blk w11 (w62.heap.size) 38 #[.int .i64 0, .int .i64 0, .int .i64 0, .int .i64 0] := by rw [hw12]; exact Blk.new _ _ _
  have hs24 : w.heap.size ≤ w62.heap.size := hE5.size
  have hE25 : Ext [] w w11 := by rw [hw12]; exact hE5.alloc _
  refine eff_store wide_wide (r := 1) (b := w62.heap.size) (off := 0) (vs := [.int .i64 r.t.lk, .int .i64 r.t.ls, .int .i64 r.t.ll, .int .i64 r.t.lr]) hS (by kernel_rfl) hB23 (by simp) fun a w26 hw27 hS => ?_
  have hB28 : Blk w26 F.fb 35 (#[.pointer (some ⟨F.s0, 0, none⟩), .pointer (some ⟨F.s1, 0, none⟩), .slice F.pb F.L.length F.pc, .slice F.qb F.L.length F.qc, .slice F.bb F.bn F.bc]) := by rw [hw27]; exact hB18.updNe (Ne.symm hn13) _ _
  have hB29 : OwnV w26 47 1 (.slice F.pb F.L.length F.pc) F.L.length (F.L.map fun r => r.t.ptr) := by rw [hw27]; exact hB19.updNe hn14 _ _
  have hB30 : OwnV w26 29 1 (.slice F.qb F.L.length F.qc) F.L.length (F.L.map Rf.ptr) := by rw [hw27]; exact hB20.updNe hn15 _ _
  have hB31 : Blk w26 r.rb 40 (#[.int .i64 r.k, .int .i64 ↑r.i, .int .i64 r.t.kd, .int .i64 r.t.nn, .int .i64 r.t.lk, .int .i64 r.t.ls, .int .i64 r.t.ll, .int .i64 r.t.lr, r.kv, .int .i64 r.t.tt]) := by rw [hw27]; exact hB21.updNe (Ne.symm hn16) _ _
  have hB32 : Blk w26 r.t.b 106 (#[.pointer (some ⟨(sOf F.s0 F.s1 r.k), 0, none⟩), .int .i64 r.t.num, .int .i64 r.t.kd, .int .i64 r.t.nn, .int .i64 r.t.lk, .int .i64 r.t.ls, .int .i64 r.t.ll, .int .i64 r.t.lr, r.t.ks, .int .i64 r.t.wd, .int .i64 r.t.lf, .int .i64 r.t.tt, .bool r.t.fl]) := by rw [hw27]; exact hB22.updNe (Ne.symm hn17) _ _
  have hB33 : Blk w26 w62.heap.size 38 (#[.int .i64 r.t.lk, .int .i64 r.t.ls, .int .i64 r.t.ll, .int .i64 r.t.lr]) := by rw [hw27]; exact hB23.upd _ _
  have hE34 : Ext [] w w26 := by rw [hw27]; exact hE25.updIn (.inr hs24) _ _
  refine seg wide_wide [.p] [0, 1, 4, 5, 6, 7, 8] [] [(0, .pointer (some ⟨F.fb, 0, none⟩)), (1, .int .i64 ↑i), (4, .bool false), (5, .pointer (some ⟨r.t.b, 0, none⟩)), (6, .pointer (some ⟨r.rb, 0, none⟩)), (7, .pointer (some ⟨w62.heap.size, 0, none⟩)), (8, .bool ((r.t.kd : Int) == 1))] 8 0 hS (by kernel_rfl) (by kernel_rfl) (by kernel_rfl) .nil fun a hS => ?_
  refine seg_end ?_
  refine hK4 _ _ ?_
  refine wpIn_seq_k fun K35 hK35 => ?_
  refine wpIn_seq_k fun K36 hK36 => ?_
  have hFd := (hF.ext0 hE34).ext0 ((Ext.refl [] w26).drew)
  refine region_fn2 wide_wide [.q .p, .e, .q .p, .q .p, .q .p, .q (.ld (.int .i64 r.t.kd)), .q (.as (.bool false)), .q .p, .q .p, .e, .q .p, .q .p, .q .p, .q (.ld (.int .i64 r.t.nn)), .q (.as (.bool false)), .q .p, .q .p, .q (.lds [.int .i64 r.t.lk, .int .i64 r.t.ls, .int .i64 r.t.ll, .int .i64 r.t.lr]), .q .p, .q .p, .q .p, .q (.lds [.int .i64 r.t.lk, .int .i64 r.t.ls, .int .i64 r.t.ll, .int .i64 r.t.lr]), .q (.run (.bool false)), .q .p, .q .p, .q .p, .q .p, .q .p, .q .p, .q (.ld (.int .i64 r.t.kd)), .q .p, .q (.as (.bool false)), .q .p, .q .p, .q .p, .e, .q .p, .q .p, .q .p, .q (.ld (r.kv)), .q (.run (.int .i64 ↑r.kids.length)), .q (.as (.bool false)), .q .p, .q .p, .q .p, .e, .q .p, .q .p, .q .p, .q (.ld (.int .i64 r.t.tt)), .q (.as (.bool false)), .q .p] [0, 0, 0, 0, 0, 0, 1, 1, 1, 1, 1, 1, 1, 1, 2, 2, 2, 2, 2, 2, 2, 2, 2, 2, 2, 2, 2, 2, 2, 2, 2, 2, 2, 2, 2, 2, 2, 2, 2, 2, 2, 3, 3, 3, 3, 3, 3, 3, 3, 3, 4, 4] [0, 0, 1, 1, 1, 1, 1, 1, 1, 1, 2, 2, 2, 2, 2, 2, 2, 2, 2, 2, 2, 2, 2, 2, 2, 2, 2, 2, 2, 2, 2, 2, 2, 2, 2, 2, 3, 3, 3, 3, 3, 3, 3, 3, 3, 3, 4, 4, 4, 4, 4, 4] [0, 1, 0, 4, 12, 28, 63, 127, 255, 511, 255, 1279, 3327, 7423, 16383, 32767, 65535, 131071, 131071, 393215, 917503, 1966079, 4194303, 8388607, 16777215, 33554431, 33554431, 100663295, 234881023, 503316479, 1040187391, 2147483647, 4294967295, 8589934591, 17179869183, 34359738367, 17179869183, 85899345919, 223338299391, 498216206335, 1047972020223, 2199023255551, 4398046511103, 8796093022207, 17592186044415, 35184372088831, 17592186044415, 87960930222079, 228698418577407, 510173395288063, 1125899906842623, 2251799813685247] [1, 9, 35, 45] 4 ([(0, .pointer (some ⟨F.fb, 0, none⟩)), (1, .int .i64 ↑i), (4, .bool false), (5, .pointer (some ⟨r.t.b, 0, none⟩)), (6, .pointer (some ⟨r.rb, 0, none⟩)), (7, .pointer (some ⟨w62.heap.size, 0, none⟩)), (8, .bool ((r.t.kd : Int) == 1)), (37, .pointer (some ⟨r.t.b, 0, none⟩)), (38, .int .i64 r.t.kd), (39, .pointer (some ⟨r.rb, 0, none⟩)), (40, .pointer (some ⟨r.rb, 0, none⟩)), (41, .pointer (some ⟨r.rb, 2, none⟩)), (42, .int .i64 r.t.kd), (43, .bool false), (44, .bool false), (45, .pointer (some ⟨r.t.b, 0, none⟩)), (46, .int .i64 r.t.nn), (47, .pointer (some ⟨r.rb, 0, none⟩)), (48, .pointer (some ⟨r.rb, 0, none⟩)), (49, .pointer (some ⟨r.rb, 3, none⟩)), (50, .int .i64 r.t.nn), (51, .bool false), (52, .bool false), (53, .bool false), (54, .agg #[.int .i64 r.t.lk, .int .i64 r.t.ls, .int .i64 r.t.ll, .int .i64 r.t.lr]), (55, .pointer (some ⟨r.rb, 0, none⟩)), (56, .pointer (some ⟨r.rb, 0, none⟩)), (57, .pointer (some ⟨r.rb, 4, none⟩)), (58, .agg #[.int .i64 r.t.lk, .int .i64 r.t.ls, .int .i64 r.t.ll, .int .i64 r.t.lr]), (59, .bool false), (60, .bool false), (61, .bool false), (62, .bool ((r.t.kd : Int) == 1)), (63, .pointer (some ⟨r.rb, 0, none⟩)), (64, .pointer (some ⟨r.rb, 0, none⟩)), (65, .pointer (some ⟨r.rb, 2, none⟩)), (66, .int .i64 r.t.kd), (67, .bool ((r.t.kd : Int) == 1)), (68, .bool false), (69, .bool false), (70, .bool false), (71, .pointer (some ⟨r.t.b, 0, none⟩)), (72, .int .i64 ↑r.t.kids.length), (73, .pointer (some ⟨r.rb, 0, none⟩)), (74, .pointer (some ⟨r.rb, 0, none⟩)), (75, .pointer (some ⟨r.rb, 8, none⟩)), (76, r.kv), (77, .int .i64 ↑r.kids.length), (78, .bool false), (79, .bool false), (80, .bool false), (81, .pointer (some ⟨r.t.b, 0, none⟩)), (82, .int .i64 r.t.tt), (83, .pointer (some ⟨r.rb, 0, none⟩)), (84, .pointer (some ⟨r.rb, 0, none⟩)), (85, .pointer (some ⟨r.rb, 9, none⟩)), (86, .int .i64 r.t.tt), (87, .bool false), (88, .bool false)]) [w26.drew, w26.drew, w26.drew, w26.drew, w26.drew] w26.drew (fun w' => [(5, [w'.cell? ⟨r.rb, 2, none⟩ = some (.int .i64 r.t.kd)]), (6, [Value.bool (((r.t.kd : Int) != r.t.kd)) = .bool false]), (13, [w'.cell? ⟨r.rb, 3, none⟩ = some (.int .i64 r.t.nn)]), (14, [Value.bool (((r.t.nn : Int) != r.t.nn)) = .bool false]), (17, [w'.cell? ⟨w62.heap.size, 0, none⟩ = some (.int .i64 r.t.lk), w'.cell? ⟨w62.heap.size, 1, none⟩ = some (.int .i64 r.t.ls), w'.cell? ⟨w62.heap.size, 2, none⟩ = some (.int .i64 r.t.ll), w'.cell? ⟨w62.heap.size, 3, none⟩ = some (.int .i64 r.t.lr)]), (21, [w'.cell? ⟨r.rb, 4, none⟩ = some (.int .i64 r.t.lk), w'.cell? ⟨r.rb, 5, none⟩ = some (.int .i64 r.t.ls), w'.cell? ⟨r.rb, 6, none⟩ = some (.int .i64 r.t.ll), w'.cell? ⟨r.rb, 7, none⟩ = some (.int .i64 r.t.lr)]), (22, [Sem.run Try.prog (vS (do eqGuard .neq 38 (.tmp 54) (.tmp 58) (.agg #[.int .i64 r.t.lk, .int .i64 r.t.ls, .int .i64 r.t.ll, .int .i64 r.t.lr]) (.agg #[.int .i64 r.t.lk, .int .i64 r.t.ls, .int .i64 r.t.ll, .int .i64 r.t.lr]); binOp .neq 38 (.agg #[.int .i64 r.t.lk, .int .i64 r.t.ls, .int .i64 r.t.ll, .int .i64 r.t.lr]) (.agg #[.int .i64 r.t.lk, .int .i64 r.t.ls, .int .i64 r.t.ll, .int .i64 r.t.lr]))) w' = .ok (.value (.bool false)) w']), (29, [w'.cell? ⟨r.rb, 2, none⟩ = some (.int .i64 r.t.kd)]), (31, [Value.bool (!(((r.t.kd : Int) == 1) == ((r.t.kd : Int) == 1))) = .bool false]), (39, [w'.cell? ⟨r.rb, 8, none⟩ = some (r.kv)]), (40, [Sem.run Try.prog (vS (Builtin.len_ #[33] 3 #[r.kv])) w' = .ok (.value (.int .i64 ↑r.kids.length)) w']), (41, [Value.bool (((↑r.t.kids.length : Int) != ↑r.kids.length)) = .bool false]), (49, [w'.cell? ⟨r.rb, 9, none⟩ = some (.int .i64 r.t.tt)]), (50, [Value.bool (((r.t.tt : Int) != r.t.tt)) = .bool false])]) [0, 1, 4, 5, 6, 7, 8] [] hS (by kernel_rfl) (by kernel_rfl) (by kernel_rfl) (by kernel_rfl) (fun _ => by kernel_rfl) (by kernel_rfl) (by kernel_rfl) (by kernel_rfl) ?_ ?_ ?_
  · intro e w' hw
    have ho5 : 0 ≤ e → e ≤ 1 → AllP [w'.cell? ⟨r.rb, 2, none⟩ = some (.int .i64 r.t.kd)] := fun h1 h2 => by
      have he : e = 0 ∨ e = 1 := by omega
      rcases he with rfl | rfl
      · obtain rfl : w' = w26.drew := hw.trans (by kernel_rfl)
        exact (.cons ((hB31.drew : Blk w26.drew r.rb 40 (#[.int .i64 r.k, .int .i64 ↑r.i, .int .i64 r.t.kd, .int .i64 r.t.nn, .int .i64 r.t.lk, .int .i64 r.t.ls, .int .i64 r.t.ll, .int .i64 r.t.lr, r.kv, .int .i64 r.t.tt])).cell 2 rfl) .nil)
      · obtain rfl : w' = w26.drew := hw.trans (by kernel_rfl)
        exact (.cons ((hB31.drew : Blk w26.drew r.rb 40 (#[.int .i64 r.k, .int .i64 ↑r.i, .int .i64 r.t.kd, .int .i64 r.t.nn, .int .i64 r.t.lk, .int .i64 r.t.ls, .int .i64 r.t.ll, .int .i64 r.t.lr, r.kv, .int .i64 r.t.tt])).cell 2 rfl) .nil)
    have ho6 : AllP [Value.bool (((r.t.kd : Int) != r.t.kd)) = .bool false] := (.cons (as_ne_f (rfl)) .nil)
    have ho13 : 1 ≤ e → e ≤ 2 → AllP [w'.cell? ⟨r.rb, 3, none⟩ = some (.int .i64 r.t.nn)] := fun h1 h2 => by
      have he : e = 1 ∨ e = 2 := by omega
      rcases he with rfl | rfl
      · obtain rfl : w' = w26.drew := hw.trans (by kernel_rfl)
        exact (.cons ((hB31.drew : Blk w26.drew r.rb 40 (#[.int .i64 r.k, .int .i64 ↑r.i, .int .i64 r.t.kd, .int .i64 r.t.nn, .int .i64 r.t.lk, .int .i64 r.t.ls, .int .i64 r.t.ll, .int .i64 r.t.lr, r.kv, .int .i64 r.t.tt])).cell 3 rfl) .nil)
      · obtain rfl : w' = w26.drew := hw.trans (by kernel_rfl)
        exact (.cons ((hB31.drew : Blk w26.drew r.rb 40 (#[.int .i64 r.k, .int .i64 ↑r.i, .int .i64 r.t.kd, .int .i64 r.t.nn, .int .i64 r.t.lk, .int .i64 r.t.ls, .int .i64 r.t.ll, .int .i64 r.t.lr, r.kv, .int .i64 r.t.tt])).cell 3 rfl) .nil)
    have ho14 : AllP [Value.bool (((r.t.nn : Int) != r.t.nn)) = .bool false] := (.cons (as_ne_f (rfl)) .nil)
    have ho17 : e = 2 → AllP [w'.cell? ⟨w62.heap.size, 0, none⟩ = some (.int .i64 r.t.lk), w'.cell? ⟨w62.heap.size, 1, none⟩ = some (.int .i64 r.t.ls), w'.cell? ⟨w62.heap.size, 2, none⟩ = some (.int .i64 r.t.ll), w'.cell? ⟨w62.heap.size, 3, none⟩ = some (.int .i64 r.t.lr)] := fun he => by subst he; obtain rfl : w' = w26.drew := hw.trans (by kernel_rfl); exact (.cons ((hB33.drew : Blk w26.drew w62.heap.size 38 (#[.int .i64 r.t.lk, .int .i64 r.t.ls, .int .i64 r.t.ll, .int .i64 r.t.lr])).cell 0 rfl) (.cons ((hB33.drew : Blk w26.drew w62.heap.size 38 (#[.int .i64 r.t.lk, .int .i64 r.t.ls, .int .i64 r.t.ll, .int .i64 r.t.lr])).cell 1 rfl) (.cons ((hB33.drew : Blk w26.drew w62.heap.size 38 (#[.int .i64 r.t.lk, .int .i64 r.t.ls, .int .i64 r.t.ll, .int .i64 r.t.lr])).cell 2 rfl) (.cons ((hB33.drew : Blk w26.drew w62.heap.size 38 (#[.int .i64 r.t.lk, .int .i64 r.t.ls, .int .i64 r.t.ll, .int .i64 r.t.lr])).cell 3 rfl) .nil))))
    have ho21 : e = 2 → AllP [w'.cell? ⟨r.rb, 4, none⟩ = some (.int .i64 r.t.lk), w'.cell? ⟨r.rb, 5, none⟩ = some (.int .i64 r.t.ls), w'.cell? ⟨r.rb, 6, none⟩ = some (.int .i64 r.t.ll), w'.cell? ⟨r.rb, 7, none⟩ = some (.int .i64 r.t.lr)] := fun he => by subst he; obtain rfl : w' = w26.drew := hw.trans (by kernel_rfl); exact (.cons ((hB31.drew : Blk w26.drew r.rb 40 (#[.int .i64 r.k, .int .i64 ↑r.i, .int .i64 r.t.kd, .int .i64 r.t.nn, .int .i64 r.t.lk, .int .i64 r.t.ls, .int .i64 r.t.ll, .int .i64 r.t.lr, r.kv, .int .i64 r.t.tt])).cell 4 rfl) (.cons ((hB31.drew : Blk w26.drew r.rb 40 (#[.int .i64 r.k, .int .i64 ↑r.i, .int .i64 r.t.kd, .int .i64 r.t.nn, .int .i64 r.t.lk, .int .i64 r.t.ls, .int .i64 r.t.ll, .int .i64 r.t.lr, r.kv, .int .i64 r.t.tt])).cell 5 rfl) (.cons ((hB31.drew : Blk w26.drew r.rb 40 (#[.int .i64 r.k, .int .i64 ↑r.i, .int .i64 r.t.kd, .int .i64 r.t.nn, .int .i64 r.t.lk, .int .i64 r.t.ls, .int .i64 r.t.ll, .int .i64 r.t.lr, r.kv, .int .i64 r.t.tt])).cell 6 rfl) (.cons ((hB31.drew : Blk w26.drew r.rb 40 (#[.int .i64 r.k, .int .i64 ↑r.i, .int .i64 r.t.kd, .int .i64 r.t.nn, .int .i64 r.t.lk, .int .i64 r.t.ls, .int .i64 r.t.ll, .int .i64 r.t.lr, r.kv, .int .i64 r.t.tt])).cell 7 rfl) .nil))))
    have ho22 : AllP [Sem.run Try.prog (vS (do eqGuard .neq 38 (.tmp 54) (.tmp 58) (.agg #[.int .i64 r.t.lk, .int .i64 r.t.ls, .int .i64 r.t.ll, .int .i64 r.t.lr]) (.agg #[.int .i64 r.t.lk, .int .i64 r.t.ls, .int .i64 r.t.ll, .int .i64 r.t.lr]); binOp .neq 38 (.agg #[.int .i64 r.t.lk, .int .i64 r.t.ls, .int .i64 r.t.ll, .int .i64 r.t.lr]) (.agg #[.int .i64 r.t.lk, .int .i64 r.t.ls, .int .i64 r.t.ll, .int .i64 r.t.lr]))) w' = .ok (.value (.bool false)) w'] := (.cons ((bin_agg_self (by kernel_rfl) (by kernel_rfl)).2) .nil)
    have ho29 : e = 2 → AllP [w'.cell? ⟨r.rb, 2, none⟩ = some (.int .i64 r.t.kd)] := fun he => by subst he; obtain rfl : w' = w26.drew := hw.trans (by kernel_rfl); exact (.cons ((hB31.drew : Blk w26.drew r.rb 40 (#[.int .i64 r.k, .int .i64 ↑r.i, .int .i64 r.t.kd, .int .i64 r.t.nn, .int .i64 r.t.lk, .int .i64 r.t.ls, .int .i64 r.t.ll, .int .i64 r.t.lr, r.kv, .int .i64 r.t.tt])).cell 2 rfl) .nil)
    have ho31 : AllP [Value.bool (!(((r.t.kd : Int) == 1) == ((r.t.kd : Int) == 1))) = .bool false] := (.cons ((by simp)) .nil)
    have ho39 : 2 ≤ e → e ≤ 3 → AllP [w'.cell? ⟨r.rb, 8, none⟩ = some (r.kv)] := fun h1 h2 => by
      have he : e = 2 ∨ e = 3 := by omega
      rcases he with rfl | rfl
      · obtain rfl : w' = w26.drew := hw.trans (by kernel_rfl)
        exact (.cons ((hB31.drew : Blk w26.drew r.rb 40 (#[.int .i64 r.k, .int .i64 ↑r.i, .int .i64 r.t.kd, .int .i64 r.t.nn, .int .i64 r.t.lk, .int .i64 r.t.ls, .int .i64 r.t.ll, .int .i64 r.t.lr, r.kv, .int .i64 r.t.tt])).cell 8 rfl) .nil)
      · obtain rfl : w' = w26.drew := hw.trans (by kernel_rfl)
        exact (.cons ((hB31.drew : Blk w26.drew r.rb 40 (#[.int .i64 r.k, .int .i64 ↑r.i, .int .i64 r.t.kd, .int .i64 r.t.nn, .int .i64 r.t.lk, .int .i64 r.t.ls, .int .i64 r.t.ll, .int .i64 r.t.lr, r.kv, .int .i64 r.t.tt])).cell 8 rfl) .nil)
    have ho40 : AllP [Sem.run Try.prog (vS (Builtin.len_ #[33] 3 #[r.kv])) w' = .ok (.value (.int .i64 ↑r.kids.length)) w'] := (.cons (run_len_own hrowr (by kernel_rfl)) .nil)
    have ho41 : AllP [Value.bool (((↑r.t.kids.length : Int) != ↑r.kids.length)) = .bool false] := (.cons (as_ne_f (by omega)) .nil)
    have ho49 : 3 ≤ e → e ≤ 4 → AllP [w'.cell? ⟨r.rb, 9, none⟩ = some (.int .i64 r.t.tt)] := fun h1 h2 => by
      have he : e = 3 ∨ e = 4 := by omega
      rcases he with rfl | rfl
      · obtain rfl : w' = w26.drew := hw.trans (by kernel_rfl)
        exact (.cons ((hB31.drew : Blk w26.drew r.rb 40 (#[.int .i64 r.k, .int .i64 ↑r.i, .int .i64 r.t.kd, .int .i64 r.t.nn, .int .i64 r.t.lk, .int .i64 r.t.ls, .int .i64 r.t.ll, .int .i64 r.t.lr, r.kv, .int .i64 r.t.tt])).cell 9 rfl) .nil)
      · obtain rfl : w' = w26.drew := hw.trans (by kernel_rfl)
        exact (.cons ((hB31.drew : Blk w26.drew r.rb 40 (#[.int .i64 r.k, .int .i64 ↑r.i, .int .i64 r.t.kd, .int .i64 r.t.nn, .int .i64 r.t.lk, .int .i64 r.t.ls, .int .i64 r.t.ll, .int .i64 r.t.lr, r.kv, .int .i64 r.t.tt])).cell 9 rfl) .nil)
    have ho50 : AllP [Value.bool (((r.t.tt : Int) != r.t.tt)) = .bool false] := (.cons (as_ne_f (rfl)) .nil)
    exact (.cons (fun h1 h2 => ho5 h1 h2) (.cons (fun _ _ => ho6) (.cons (fun h1 h2 => ho13 h1 h2) (.cons (fun _ _ => ho14) (.cons (fun h1 h2 => ho17 (Nat.le_antisymm h2 h1)) (.cons (fun h1 h2 => ho21 (Nat.le_antisymm h2 h1)) (.cons (fun _ _ => ho22) (.cons (fun h1 h2 => ho29 (Nat.le_antisymm h2 h1)) (.cons (fun _ _ => ho31) (.cons (fun h1 h2 => ho39 h1 h2) (.cons (fun _ _ => ho40) (.cons (fun _ _ => ho41) (.cons (fun h1 h2 => ho49 h1 h2) (.cons (fun _ _ => ho50) .nil))))))))))))))
  · refine (.cons ?eq37_1 (.cons ?eq37_9 (.cons ?eq37_35 (.cons ?eq37_45 .nil))))
    · refine eff_at (w26.drew) (w26.drew) (by kernel_rfl) (by kernel_rfl) ?_
      refine upon_call (f := 33) (vs := [.pointer (some ⟨r.t.b, 0, none⟩)]) (cap := #[]) (d := (some 38)) (by kernel_rfl) Try.call33 #[.pointer (some ⟨r.t.b, 0, none⟩)] (by kernel_rfl) (Kind_any (hB32.drew : Blk w26.drew r.t.b 106 (#[.pointer (some ⟨(sOf F.s0 F.s1 r.k), 0, none⟩), .int .i64 r.t.num, .int .i64 r.t.kd, .int .i64 r.t.nn, .int .i64 r.t.lk, .int .i64 r.t.ls, .int .i64 r.t.ll, .int .i64 r.t.lr, r.t.ks, .int .i64 r.t.wd, .int .i64 r.t.lf, .int .i64 r.t.tt, .bool r.t.fl]))) ?_
      rintro _ _ ⟨rfl, rfl⟩
      exact ⟨_, rfl, ⟨by kernel_rfl, by kernel_rfl⟩⟩
    · refine eff_at (w26.drew) (w26.drew) (by kernel_rfl) (by kernel_rfl) ?_
      refine upon_call (f := 63) (vs := [.pointer (some ⟨r.t.b, 0, none⟩)]) (cap := #[]) (d := (some 46)) (by kernel_rfl) Try.call63 #[.pointer (some ⟨r.t.b, 0, none⟩)] (by kernel_rfl) (N_any (hB32.drew : Blk w26.drew r.t.b 106 (#[.pointer (some ⟨(sOf F.s0 F.s1 r.k), 0, none⟩), .int .i64 r.t.num, .int .i64 r.t.kd, .int .i64 r.t.nn, .int .i64 r.t.lk, .int .i64 r.t.ls, .int .i64 r.t.ll, .int .i64 r.t.lr, r.t.ks, .int .i64 r.t.wd, .int .i64 r.t.lf, .int .i64 r.t.tt, .bool r.t.fl]))) ?_
      rintro _ _ ⟨rfl, rfl⟩
      exact ⟨_, rfl, ⟨by kernel_rfl, by kernel_rfl⟩⟩
    · refine eff_at (w26.drew) (w26.drew) (by kernel_rfl) (by kernel_rfl) ?_
      refine upon_call (f := 32) (vs := [.pointer (some ⟨r.t.b, 0, none⟩)]) (cap := #[]) (d := (some 72)) (by kernel_rfl) Try.call32 #[.pointer (some ⟨r.t.b, 0, none⟩)] (by kernel_rfl) (Count_any (hFd.ok.one r hrm).ok) ?_
      rintro _ _ ⟨rfl, rfl⟩
      exact ⟨_, rfl, ⟨by kernel_rfl, by kernel_rfl⟩⟩
    · refine eff_at (w26.drew) (w26.drew) (by kernel_rfl) (by kernel_rfl) ?_
      refine upon_call (f := 22) (vs := [.pointer (some ⟨r.t.b, 0, none⟩)]) (cap := #[]) (d := (some 82)) (by kernel_rfl) Try.call22 #[.pointer (some ⟨r.t.b, 0, none⟩)] (by kernel_rfl) (Size_any (hB32.drew : Blk w26.drew r.t.b 106 (#[.pointer (some ⟨(sOf F.s0 F.s1 r.k), 0, none⟩), .int .i64 r.t.num, .int .i64 r.t.kd, .int .i64 r.t.nn, .int .i64 r.t.lk, .int .i64 r.t.ls, .int .i64 r.t.ll, .int .i64 r.t.lr, r.t.ks, .int .i64 r.t.wd, .int .i64 r.t.lf, .int .i64 r.t.tt, .bool r.t.fl]))) ?_
      rintro _ _ ⟨rfl, rfl⟩
      exact ⟨_, rfl, ⟨by kernel_rfl, by kernel_rfl⟩⟩
  rintro a w38 hS hw39
  replace hw39 : w38 = w26.drew := hw39.trans (by kernel_rfl)
  have hB40 : Blk w38 F.fb 35 (#[.pointer (some ⟨F.s0, 0, none⟩), .pointer (some ⟨F.s1, 0, none⟩), .slice F.pb F.L.length F.pc, .slice F.qb F.L.length F.qc, .slice F.bb F.bn F.bc]) := by rw [hw39]; exact hB28.drew
  have hB41 : OwnV w38 47 1 (.slice F.pb F.L.length F.pc) F.L.length (F.L.map fun r => r.t.ptr) := by rw [hw39]; exact hB29.drew
  have hB42 : OwnV w38 29 1 (.slice F.qb F.L.length F.qc) F.L.length (F.L.map Rf.ptr) := by rw [hw39]; exact hB30.drew
  have hB43 : Blk w38 r.rb 40 (#[.int .i64 r.k, .int .i64 ↑r.i, .int .i64 r.t.kd, .int .i64 r.t.nn, .int .i64 r.t.lk, .int .i64 r.t.ls, .int .i64 r.t.ll, .int .i64 r.t.lr, r.kv, .int .i64 r.t.tt]) := by rw [hw39]; exact hB31.drew
  have hB44 : Blk w38 r.t.b 106 (#[.pointer (some ⟨(sOf F.s0 F.s1 r.k), 0, none⟩), .int .i64 r.t.num, .int .i64 r.t.kd, .int .i64 r.t.nn, .int .i64 r.t.lk, .int .i64 r.t.ls, .int .i64 r.t.ll, .int .i64 r.t.lr, r.t.ks, .int .i64 r.t.wd, .int .i64 r.t.lf, .int .i64 r.t.tt, .bool r.t.fl]) := by rw [hw39]; exact hB32.drew
  have hB45 : Blk w38 w62.heap.size 38 (#[.int .i64 r.t.lk, .int .i64 r.t.ls, .int .i64 r.t.ll, .int .i64 r.t.lr]) := by rw [hw39]; exact hB33.drew
  have hE46 : Ext [] w w38 := by rw [hw39]; exact hE34.drew
  replace hS := hS.keepTo [0, 1, 4, 5, 6, 7, 8, 88] (m' := [(0, .pointer (some ⟨F.fb, 0, none⟩)), (1, .int .i64 ↑i), (4, .bool false), (5, .pointer (some ⟨r.t.b, 0, none⟩)), (6, .pointer (some ⟨r.rb, 0, none⟩)), (7, .pointer (some ⟨w62.heap.size, 0, none⟩)), (8, .bool ((r.t.kd : Int) == 1)), (88, .bool false)]) (by kernel_rfl)
  refine hK36 _ _ ?_
  refine cond_f hS rfl ?_
  refine wpIn_skip ?_
  refine hK35 _ _ ?_
  refine wpIn_seq_k fun K47 hK47 => ?_
  refine wpIn_seq_k fun K48 hK48 => ?_
  refine region 1 (by kernel_rfl) ?_
  refine seg wide_wide [.p] [0, 1, 4, 5, 6, 7, 8, 88, 9] [] [(0, .pointer (some ⟨F.fb, 0, none⟩)), (1, .int .i64 ↑i), (4, .bool false), (5, .pointer (some ⟨r.t.b, 0, none⟩)), (6, .pointer (some ⟨r.rb, 0, none⟩)), (7, .pointer (some ⟨w62.heap.size, 0, none⟩)), (8, .bool ((r.t.kd : Int) == 1)), (88, .bool false), (9, .int .i64 0)] 1 0 hS (by kernel_rfl) (by kernel_rfl) (by kernel_rfl) .nil fun a hS => ?_
  refine seg_end ?_
  refine hK48 _ _ ?_
  refine wpIn_block ?_
  refine loop_ghost (fun (j : Nat) a' w' => St 207 [] [(0, .pointer (some ⟨F.fb, 0, none⟩)), (5, .pointer (some ⟨r.t.b, 0, none⟩)), (6, .pointer (some ⟨r.rb, 0, none⟩)), (9, .int .i64 ↑j)] a' ∧ j ≤ r.kids.length ∧ Ext [] w w') (fun (j : Nat) => r.kids.length - j) 0 ⟨hS.keepTo [0, 5, 6, 9] (by kernel_rfl), Nat.zero_le _, hE46⟩ ?_
  rintro j a w1 ⟨hS, hjl, hEx⟩
  have hF1 := hF.ext0 hEx
  have hrowr1 := (hF1.ok.one r hrm).row
  have hBr1 : Blk w1 r.rb 40 #[.int .i64 r.k, .int .i64 ↑r.i, .int .i64 r.t.kd, .int .i64 r.t.nn, .int .i64 r.t.lk, .int .i64 r.t.ls, .int .i64 r.t.ll, .int .i64 r.t.lr, r.kv, .int .i64 r.t.tt] := (hF1.ok.one r hrm).blk
  have hTr1 : Blk w1 r.t.b 106 #[.pointer (some ⟨(sOf F.s0 F.s1 r.k), 0, none⟩), .int .i64 r.t.num, .int .i64 r.t.kd, .int .i64 r.t.nn, .int .i64 r.t.lk, .int .i64 r.t.ls, .int .i64 r.t.ll, .int .i64 r.t.lr, r.t.ks, .int .i64 r.t.wd, .int .i64 r.t.lf, .int .i64 r.t.tt, .bool r.t.fl] := (hF1.ok.one r hrm).ok.blk
  refine wpIn_seq_k fun K49 hK49 => ?_
  refine wpIn_seq_k fun K50 hK50 => ?_
  refine region 7 (by kernel_rfl) ?_
  refine seg wide_wide [.p, .p, .p, .p, .ld (r.kv), .run (.int .i64 ↑r.kids.length), .p] [0, 5, 6, 9, 95] [w1.cell? ⟨r.rb, 8, none⟩ = some (r.kv), Sem.run Try.prog (vS (Builtin.len_ #[33] 3 #[r.kv])) w1 = .ok (.value (.int .i64 ↑r.kids.length)) w1] [(0, .pointer (some ⟨F.fb, 0, none⟩)), (5, .pointer (some ⟨r.t.b, 0, none⟩)), (6, .pointer (some ⟨r.rb, 0, none⟩)), (9, .int .i64 ↑j), (95, .bool (decide ((↑j : Int) < ↑r.kids.length)))] 7 0 hS (by kernel_rfl) (by kernel_rfl) (by kernel_rfl) (.cons (hBr1.cell 8 rfl) (.cons (run_len_own hrowr1 (by kernel_rfl)) .nil)) fun a hS => ?_
  refine seg_end ?_
  refine hK50 _ _ ?_
  refine cond_b hS rfl (fun hb51 => ?_) (fun hb51 => ?_)
  · -- decide ((↑j : Int) < ↑r.kids.length) is true
    replace hb51 := of_decide_eq_true hb51
    have hj : j < r.kids.length := by omega
    obtain ⟨q, hq⟩ : ∃ q, r.kids[j]? = some q := ⟨_, List.getElem?_eq_getElem hj⟩
    have hqr := List.mem_of_getElem? hq
    have hqm := hF.ok.mem hrm hqr
    have hqL := (hF.ok.one r hrm).kin q hqr
    have hqi := (hF.ok.one q hqm).ki
    have hqt : r.t.kids[j]? = some q.t := by rw [(hF.ok.one r hrm).kt]; simp [hq]
    have hrowq1 := (hF1.ok.one q hqm).row
    have hBq1 : Blk w1 q.rb 40 #[.int .i64 q.k, .int .i64 ↑q.i, .int .i64 q.t.kd, .int .i64 q.t.nn, .int .i64 q.t.lk, .int .i64 q.t.ls, .int .i64 q.t.ll, .int .i64 q.t.lr, q.kv, .int .i64 q.t.tt] := (hF1.ok.one q hqm).blk
    have hTq1 : Blk w1 q.t.b 106 #[.pointer (some ⟨(sOf F.s0 F.s1 q.k), 0, none⟩), .int .i64 q.t.num, .int .i64 q.t.kd, .int .i64 q.t.nn, .int .i64 q.t.lk, .int .i64 q.t.ls, .int .i64 q.t.ll, .int .i64 q.t.lr, q.t.ks, .int .i64 q.t.wd, .int .i64 q.t.lf, .int .i64 q.t.tt, .bool q.t.fl] := (hF1.ok.one q hqm).ok.blk
    refine wpIn_skip ?_
    refine hK49 _ _ ?_
    refine wpIn_seq_k fun K52 hK52 => ?_
    refine wpIn_block ?_
    refine wpIn_seq_k fun K53 hK53 => ?_
    refine region 8 (by kernel_rfl) ?_
    refine seg wide_wide [.p, .p] [0, 5, 6, 9, 99, 100] [] [(0, .pointer (some ⟨F.fb, 0, none⟩)), (5, .pointer (some ⟨r.t.b, 0, none⟩)), (6, .pointer (some ⟨r.rb, 0, none⟩)), (9, .int .i64 ↑j), (99, .pointer (some ⟨r.t.b, 0, none⟩)), (100, .int .i64 ↑j)] 2 6 hS (by kernel_rfl) (by kernel_rfl) (by kernel_rfl) .nil fun a hS => ?_
    refine eff_call_ro wide_wide (r := 5) (f := 64) (vs := [.pointer (some ⟨r.t.b, 0, none⟩), .int .i64 ↑j]) (cap := #[]) (d := (some 101)) (v := Value.tuple #[.pointer (some ⟨q.t.b, 0, none⟩), .bool true]) hS (by kernel_rfl) Try.call64 #[.pointer (some ⟨r.t.b, 0, none⟩), .int .i64 ↑j] (by kernel_rfl) (Kid_in (j := j) (kid := q.t) (hF1.ok.one r hrm).ok hqt (by omega)) fun a hS => ?_
    refine seg wide_wide [.p, .p, .p, .p, .p] [0, 5, 6, 9, 10, 11] [] [(0, .pointer (some ⟨F.fb, 0, none⟩)), (5, .pointer (some ⟨r.t.b, 0, none⟩)), (6, .pointer (some ⟨r.rb, 0, none⟩)), (9, .int .i64 ↑j), (10, .pointer (some ⟨q.t.b, 0, none⟩)), (11, .bool true)] 8 0 hS (by kernel_rfl) (by kernel_rfl) (by kernel_rfl) .nil fun a hS => ?_
    refine seg_end ?_
    refine hK53 _ _ ?_
    refine wpIn_seq_k fun K54 hK54 => ?_
    refine region_fn2 wide_wide [.q .p, .q .p, .q .p, .q .p, .q .p, .q .p, .q .p, .q (.ld (.slice F.pb F.L.length F.pc)), .q .p, .q .p, .q .p, .q (.ld (r.kv)), .q .p, .q (.run (.pointer (some ⟨bof r.kv, 0 + j * 1, none⟩))), .q (.ld (.pointer (some ⟨q.rb, 0, none⟩))), .q .p, .q .p, .q (.ld (.int .i64 ↑q.i)), .q (.run (.pointer (some ⟨bof (.slice F.pb F.L.length F.pc), 0 + q.i * 1, none⟩))), .q (.ld (.pointer (some ⟨q.t.b, 0, none⟩))), .q (.run (.bool false)), .q .p] [0, 0, 0, 0, 0, 0, 0, 0, 0, 0, 0, 0, 0, 0, 0, 0, 0, 0, 0, 0, 0, 0] [0, 0, 0, 0, 0, 0, 0, 0, 0, 0, 0, 0, 0, 0, 0, 0, 0, 0, 0, 0, 0, 0] [0, 1, 3, 7, 7, 23, 55, 119, 7, 263, 775, 1799, 7, 7943, 16135, 32519, 65287, 130823, 262135, 524279, 1048575, 2097151] [] 0 ([(0, .pointer (some ⟨F.fb, 0, none⟩)), (5, .pointer (some ⟨r.t.b, 0, none⟩)), (6, .pointer (some ⟨r.rb, 0, none⟩)), (9, .int .i64 ↑j), (10, .pointer (some ⟨q.t.b, 0, none⟩)), (11, .bool true), (104, .bool true), (105, .bool false), (106, .bool false), (107, .pointer (some ⟨q.t.b, 0, none⟩)), (108, .pointer (some ⟨F.fb, 0, none⟩)), (109, .pointer (some ⟨F.fb, 0, none⟩)), (110, .pointer (some ⟨F.fb, 2, none⟩)), (111, .slice F.pb F.L.length F.pc), (112, .pointer (some ⟨r.rb, 0, none⟩)), (113, .pointer (some ⟨r.rb, 0, none⟩)), (114, .pointer (some ⟨r.rb, 8, none⟩)), (115, r.kv), (116, .int .i64 ↑j), (117, .pointer (some ⟨bof r.kv, 0 + j * 1, none⟩)), (118, .pointer (some ⟨q.rb, 0, none⟩)), (119, .pointer (some ⟨q.rb, 0, none⟩)), (120, .pointer (some ⟨q.rb, 1, none⟩)), (121, .int .i64 ↑q.i), (122, .pointer (some ⟨bof (.slice F.pb F.L.length F.pc), 0 + q.i * 1, none⟩)), (123, .pointer (some ⟨q.t.b, 0, none⟩)), (124, .bool false), (125, .bool false)]) [w1.drew] w1.drew (fun w' => [(7, [w'.cell? ⟨F.fb, 2, none⟩ = some (.slice F.pb F.L.length F.pc)]), (11, [w'.cell? ⟨r.rb, 8, none⟩ = some (r.kv)]), (13, [Sem.run Try.prog (vS (Instr.indexAt 33 (r.kv) (.int .i64 ↑j))) w' = .ok (.value (.pointer (some ⟨bof r.kv, 0 + j * 1, none⟩))) w']), (14, [w'.cell? ⟨bof r.kv, 0 + j * 1, none⟩ = some (.pointer (some ⟨q.rb, 0, none⟩))]), (17, [w'.cell? ⟨q.rb, 1, none⟩ = some (.int .i64 ↑q.i)]), (18, [Sem.run Try.prog (vS (Instr.indexAt 32 (.slice F.pb F.L.length F.pc) (.int .i64 ↑q.i))) w' = .ok (.value (.pointer (some ⟨bof (.slice F.pb F.L.length F.pc), 0 + q.i * 1, none⟩))) w']), (19, [w'.cell? ⟨bof (.slice F.pb F.L.length F.pc), 0 + q.i * 1, none⟩ = some (.pointer (some ⟨q.t.b, 0, none⟩))]), (20, [Sem.run Try.prog (vS (do eqGuard .neq 47 (.tmp 107) (.tmp 123) (.pointer (some ⟨q.t.b, 0, none⟩)) (.pointer (some ⟨q.t.b, 0, none⟩)); binOp .neq 47 (.pointer (some ⟨q.t.b, 0, none⟩)) (.pointer (some ⟨q.t.b, 0, none⟩)))) w' = .ok (.value (.bool false)) w'])]) [0, 5, 6, 9, 10, 11] [] hS (by kernel_rfl) (by kernel_rfl) (by kernel_rfl) (by kernel_rfl) (fun _ => by kernel_rfl) (by kernel_rfl) (by kernel_rfl) (by kernel_rfl) ?_ ?_ ?_
    · intro e w' hw
      have ho7 : e = 0 → AllP [w'.cell? ⟨F.fb, 2, none⟩ = some (.slice F.pb F.L.length F.pc)] := fun he => by subst he; obtain rfl : w' = w1.drew := hw.trans (by kernel_rfl); exact (.cons ((hF1.f.drew : Blk w1.drew F.fb 35 (#[.pointer (some ⟨F.s0, 0, none⟩), .pointer (some ⟨F.s1, 0, none⟩), .slice F.pb F.L.length F.pc, .slice F.qb F.L.length F.qc, .slice F.bb F.bn F.bc])).cell 2 rfl) .nil)
      have ho11 : e = 0 → AllP [w'.cell? ⟨r.rb, 8, none⟩ = some (r.kv)] := fun he => by subst he; obtain rfl : w' = w1.drew := hw.trans (by kernel_rfl); exact (.cons ((hBr1.drew : Blk w1.drew r.rb 40 (#[.int .i64 r.k, .int .i64 ↑r.i, .int .i64 r.t.kd, .int .i64 r.t.nn, .int .i64 r.t.lk, .int .i64 r.t.ls, .int .i64 r.t.ll, .int .i64 r.t.lr, r.kv, .int .i64 r.t.tt])).cell 8 rfl) .nil)
      have ho13 : AllP [Sem.run Try.prog (vS (Instr.indexAt 33 (r.kv) (.int .i64 ↑j))) w' = .ok (.value (.pointer (some ⟨bof r.kv, 0 + j * 1, none⟩))) w'] := (.cons (ix_own (j := j) hrowr1 (by kernel_rfl) (by kernel_rfl) rfl (by omega)) .nil)
      have ho14 : e = 0 → AllP [w'.cell? ⟨bof r.kv, 0 + j * 1, none⟩ = some (.pointer (some ⟨q.rb, 0, none⟩))] := fun he => by subst he; obtain rfl : w' = w1.drew := hw.trans (by kernel_rfl); exact (.cons (hrowr1.cellAt _ (by simp [hq, Rf.ptr])) .nil)
      have ho17 : e = 0 → AllP [w'.cell? ⟨q.rb, 1, none⟩ = some (.int .i64 ↑q.i)] := fun he => by subst he; obtain rfl : w' = w1.drew := hw.trans (by kernel_rfl); exact (.cons ((hBq1.drew : Blk w1.drew q.rb 40 (#[.int .i64 q.k, .int .i64 ↑q.i, .int .i64 q.t.kd, .int .i64 q.t.nn, .int .i64 q.t.lk, .int .i64 q.t.ls, .int .i64 q.t.ll, .int .i64 q.t.lr, q.kv, .int .i64 q.t.tt])).cell 1 rfl) .nil)
      have ho18 : AllP [Sem.run Try.prog (vS (Instr.indexAt 32 (.slice F.pb F.L.length F.pc) (.int .i64 ↑q.i))) w' = .ok (.value (.pointer (some ⟨bof (.slice F.pb F.L.length F.pc), 0 + q.i * 1, none⟩))) w'] := (.cons (ix_own (j := q.i) (hF1.P) (by kernel_rfl) (by kernel_rfl) rfl hqi) .nil)
      have ho19 : e = 0 → AllP [w'.cell? ⟨bof (.slice F.pb F.L.length F.pc), 0 + q.i * 1, none⟩ = some (.pointer (some ⟨q.t.b, 0, none⟩))] := fun he => by subst he; obtain rfl : w' = w1.drew := hw.trans (by kernel_rfl); exact (.cons ((hF1.P.drew : OwnV w1.drew 47 1 (.slice F.pb F.L.length F.pc) F.L.length (F.L.map fun r => r.t.ptr)).cellAt _ (by simp [hqL, Tr.ptr])) .nil)
      have ho20 : e = 0 → AllP [Sem.run Try.prog (vS (do eqGuard .neq 47 (.tmp 107) (.tmp 123) (.pointer (some ⟨q.t.b, 0, none⟩)) (.pointer (some ⟨q.t.b, 0, none⟩)); binOp .neq 47 (.pointer (some ⟨q.t.b, 0, none⟩)) (.pointer (some ⟨q.t.b, 0, none⟩)))) w' = .ok (.value (.bool false)) w'] := fun he => by subst he; obtain rfl : w' = w1.drew := hw.trans (by kernel_rfl); exact (.cons (bin_ptr_neq (E := 106) (by kernel_rfl) ⟨12, by kernel_rfl⟩ (hTq1.drew) (hTq1.drew) (by simp)) .nil)
      exact (.cons (fun h1 h2 => ho7 (Nat.le_antisymm h2 h1)) (.cons (fun h1 h2 => ho11 (Nat.le_antisymm h2 h1)) (.cons (fun _ _ => ho13) (.cons (fun h1 h2 => ho14 (Nat.le_antisymm h2 h1)) (.cons (fun h1 h2 => ho17 (Nat.le_antisymm h2 h1)) (.cons (fun _ _ => ho18) (.cons (fun h1 h2 => ho19 (Nat.le_antisymm h2 h1)) (.cons (fun h1 h2 => ho20 (Nat.le_antisymm h2 h1)) .nil))))))))
    · refine .nil
    rintro a w56 hS hw57
    replace hw57 : w56 = w1.drew := hw57.trans (by kernel_rfl)
    have hB58 : Blk w56 F.fb 35 (#[.pointer (some ⟨F.s0, 0, none⟩), .pointer (some ⟨F.s1, 0, none⟩), .slice F.pb F.L.length F.pc, .slice F.qb F.L.length F.qc, .slice F.bb F.bn F.bc]) := by rw [hw57]; exact hF1.f.drew
    have hB59 : OwnV w56 47 1 (.slice F.pb F.L.length F.pc) F.L.length (F.L.map fun r => r.t.ptr) := by rw [hw57]; exact hF1.P.drew
    have hB60 : OwnV w56 29 1 (.slice F.qb F.L.length F.qc) F.L.length (F.L.map Rf.ptr) := by rw [hw57]; exact hF1.R.drew
    have hB61 : Blk w56 r.rb 40 (#[.int .i64 r.k, .int .i64 ↑r.i, .int .i64 r.t.kd, .int .i64 r.t.nn, .int .i64 r.t.lk, .int .i64 r.t.ls, .int .i64 r.t.ll, .int .i64 r.t.lr, r.kv, .int .i64 r.t.tt]) := by rw [hw57]; exact hBr1.drew
    have hB62 : Blk w56 r.t.b 106 (#[.pointer (some ⟨(sOf F.s0 F.s1 r.k), 0, none⟩), .int .i64 r.t.num, .int .i64 r.t.kd, .int .i64 r.t.nn, .int .i64 r.t.lk, .int .i64 r.t.ls, .int .i64 r.t.ll, .int .i64 r.t.lr, r.t.ks, .int .i64 r.t.wd, .int .i64 r.t.lf, .int .i64 r.t.tt, .bool r.t.fl]) := by rw [hw57]; exact hTr1.drew
    have hB63 : Blk w56 q.rb 40 (#[.int .i64 q.k, .int .i64 ↑q.i, .int .i64 q.t.kd, .int .i64 q.t.nn, .int .i64 q.t.lk, .int .i64 q.t.ls, .int .i64 q.t.ll, .int .i64 q.t.lr, q.kv, .int .i64 q.t.tt]) := by rw [hw57]; exact hBq1.drew
    have hB64 : Blk w56 q.t.b 106 (#[.pointer (some ⟨(sOf F.s0 F.s1 q.k), 0, none⟩), .int .i64 q.t.num, .int .i64 q.t.kd, .int .i64 q.t.nn, .int .i64 q.t.lk, .int .i64 q.t.ls, .int .i64 q.t.ll, .int .i64 q.t.lr, q.t.ks, .int .i64 q.t.wd, .int .i64 q.t.lf, .int .i64 q.t.tt, .bool q.t.fl]) := by rw [hw57]; exact hTq1.drew
    have hE65 : Ext [] w w56 := by rw [hw57]; exact hEx.drew
    replace hS := hS.keepTo [0, 5, 6, 9, 10, 11, 125] (m' := [(0, .pointer (some ⟨F.fb, 0, none⟩)), (5, .pointer (some ⟨r.t.b, 0, none⟩)), (6, .pointer (some ⟨r.rb, 0, none⟩)), (9, .int .i64 ↑j), (10, .pointer (some ⟨q.t.b, 0, none⟩)), (11, .bool true), (125, .bool false)]) (by kernel_rfl)
    refine hK54 _ _ ?_
    refine cond_f hS rfl ?_
    refine wpIn_skip ?_
    refine inBlock_normal ?_
    refine hK52 _ _ ?_
    refine region 3 (by kernel_rfl) ?_
    refine seg wide_wide [.p, .as (.int .i64 (↑j + 1)), .p] [0, 5, 6, 9, 10, 11, 125] [Value.int .i64 (IntKind.i64.wrap (↑j + 1)) = .int .i64 (↑j + 1)] [(0, .pointer (some ⟨F.fb, 0, none⟩)), (5, .pointer (some ⟨r.t.b, 0, none⟩)), (6, .pointer (some ⟨r.rb, 0, none⟩)), (9, .int .i64 (↑j + 1)), (10, .pointer (some ⟨q.t.b, 0, none⟩)), (11, .bool true), (125, .bool false)] 3 0 hS (by kernel_rfl) (by kernel_rfl) (by kernel_rfl) (.cons (as_i64 (by omega)) .nil) fun a hS => ?_
    refine seg_end ?_
    exact ⟨j + 1, ⟨hS.keepTo [0, 5, 6, 9] (by kernel_rfl), by omega, hE65⟩, by omega⟩
  · -- decide ((↑j : Int) < ↑r.kids.length) is false
    replace hb51 := of_decide_eq_false hb51
    obtain rfl : j = r.kids.length := by omega
    refine wpIn_exit ?_
    refine then_exit ?_
    refine then_exit ?_
    refine inBlock_hit ?_
    refine hK47 _ _ ?_
    refine wpIn_seq_k fun K66 hK66 => ?_
    refine region 7 (by kernel_rfl) ?_
    refine seg wide_wide [.p] [0, 5, 6, 127] [] [(0, .pointer (some ⟨F.fb, 0, none⟩)), (5, .pointer (some ⟨r.t.b, 0, none⟩)), (6, .pointer (some ⟨r.rb, 0, none⟩)), (127, .pointer (some ⟨r.t.b, 0, none⟩))] 1 6 hS (by kernel_rfl) (by kernel_rfl) (by kernel_rfl) .nil fun a hS => ?_
    refine eff_call_ro wide_wide (r := 5) (f := 64) (vs := [.pointer (some ⟨r.t.b, 0, none⟩), .int .i64 (-1)]) (cap := #[]) (d := (some 128)) (v := Value.tuple #[.pointer none, .bool false]) hS (by kernel_rfl) Try.call64 #[.pointer (some ⟨r.t.b, 0, none⟩), .int .i64 (-1)] (by kernel_rfl) (Kid_lt (hF1.ok.one r hrm).ok (by omega)) fun a hS => ?_
    refine seg wide_wide [.p, .p, .p, .p, .p] [0, 5, 6, 12, 13] [] [(0, .pointer (some ⟨F.fb, 0, none⟩)), (5, .pointer (some ⟨r.t.b, 0, none⟩)), (6, .pointer (some ⟨r.rb, 0, none⟩)), (12, .pointer none), (13, .bool false)] 7 0 hS (by kernel_rfl) (by kernel_rfl) (by kernel_rfl) .nil fun a hS => ?_
    refine seg_end ?_
    refine hK66 _ _ ?_
    refine wpIn_seq_k fun K67 hK67 => ?_
    refine region 12 (by kernel_rfl) ?_
    refine seg wide_wide [.p, .p, .p, .p, .ld (r.kv), .run (.int .i64 ↑r.kids.length)] [0, 5, 6, 12, 13, 132, 137] [w1.cell? ⟨r.rb, 8, none⟩ = some (r.kv), Sem.run Try.prog (vS (Builtin.len_ #[33] 3 #[r.kv])) w1 = .ok (.value (.int .i64 ↑r.kids.length)) w1] [(0, .pointer (some ⟨F.fb, 0, none⟩)), (5, .pointer (some ⟨r.t.b, 0, none⟩)), (6, .pointer (some ⟨r.rb, 0, none⟩)), (12, .pointer none), (13, .bool false), (132, .pointer (some ⟨r.t.b, 0, none⟩)), (137, .int .i64 ↑r.kids.length)] 6 6 hS (by kernel_rfl) (by kernel_rfl) (by kernel_rfl) (.cons (hBr1.cell 8 rfl) (.cons (run_len_own hrowr1 (by kernel_rfl)) .nil)) fun a hS => ?_
    refine eff_call_ro wide_wide (r := 5) (f := 64) (vs := [.pointer (some ⟨r.t.b, 0, none⟩), .int .i64 ↑r.kids.length]) (cap := #[]) (d := (some 138)) (v := Value.tuple #[.pointer none, .bool false]) hS (by kernel_rfl) Try.call64 #[.pointer (some ⟨r.t.b, 0, none⟩), .int .i64 ↑r.kids.length] (by kernel_rfl) (Kid_ge (hF1.ok.one r hrm).ok (by omega)) fun a hS => ?_
    refine seg wide_wide [.p, .p, .p, .p, .p] [0, 5, 6, 12, 13, 14, 8] [] [(0, .pointer (some ⟨F.fb, 0, none⟩)), (5, .pointer (some ⟨r.t.b, 0, none⟩)), (6, .pointer (some ⟨r.rb, 0, none⟩)), (12, .pointer none), (13, .bool false), (14, .pointer none), (8, .bool false)] 12 0 hS (by kernel_rfl) (by kernel_rfl) (by kernel_rfl) .nil fun a hS => ?_
    refine seg_end ?_
    refine hK67 _ _ ?_
    refine wpIn_seq_k fun K68 hK68 => ?_
    refine wpIn_seq_k fun K69 hK69 => ?_
    refine region 12 (by kernel_rfl) ?_
    refine seg wide_wide [.p, .p, .p, .p, .p, .p, .p, .p, .p, .p, .p, .p] [0, 5, 6, 12, 13, 14, 8, 152] [] [(0, .pointer (some ⟨F.fb, 0, none⟩)), (5, .pointer (some ⟨r.t.b, 0, none⟩)), (6, .pointer (some ⟨r.rb, 0, none⟩)), (12, .pointer none), (13, .bool false), (14, .pointer none), (8, .bool false), (152, .bool false)] 12 0 hS (by kernel_rfl) (by kernel_rfl) (by kernel_rfl) .nil fun a hS => ?_
    refine seg_end ?_
    refine hK69 _ _ ?_
    refine cond_f hS rfl ?_
    refine wpIn_skip ?_
    refine hK68 _ _ ?_
    refine wpIn_seq_k fun K70 hK70 => ?_
    refine wpIn_seq_k fun K71 hK71 => ?_
    refine region 5 (by kernel_rfl) ?_
    refine seg wide_wide [.p, .p, .p, .ld (.int .i64 r.t.tt), .p] [0, 5, 6, 12, 13, 14, 8, 152, 157] [w1.cell? ⟨r.rb, 9, none⟩ = some (.int .i64 r.t.tt)] [(0, .pointer (some ⟨F.fb, 0, none⟩)), (5, .pointer (some ⟨r.t.b, 0, none⟩)), (6, .pointer (some ⟨r.rb, 0, none⟩)), (12, .pointer none), (13, .bool false), (14, .pointer none), (8, .bool false), (152, .bool false), (157, .bool (decide ((r.t.tt : Int) > 4000)))] 5 0 hS (by kernel_rfl) (by kernel_rfl) (by kernel_rfl) (.cons (hBr1.cell 9 rfl) .nil) fun a hS => ?_
    refine seg_end ?_
    refine hK71 _ _ ?_
    refine cond_b hS rfl (fun hb72 => ?_) (fun hb72 => ?_)
    · -- decide ((r.t.tt : Int) > 4000) is true
      replace hb72 := of_decide_eq_true hb72
      refine wpIn_seq_k fun K73 hK73 => ?_
      refine region 1 (by kernel_rfl) ?_
      refine seg wide_wide [.p] [0, 5, 6, 12, 13, 14, 8, 152, 4] [] [(0, .pointer (some ⟨F.fb, 0, none⟩)), (5, .pointer (some ⟨r.t.b, 0, none⟩)), (6, .pointer (some ⟨r.rb, 0, none⟩)), (12, .pointer none), (13, .bool false), (14, .pointer none), (8, .bool false), (152, .bool false), (4, .bool true)] 1 0 hS (by kernel_rfl) (by kernel_rfl) (by kernel_rfl) .nil fun a hS => ?_
      refine seg_end ?_
      refine hK73 _ _ ?_
      refine wpIn_ret ?_
      refine then_ret ?_
      refine ret1 hS Try.results35 rfl ?_
      exact ⟨rfl, hEx⟩
    · -- decide ((r.t.tt : Int) > 4000) is false
      replace hb72 := of_decide_eq_false hb72
      refine wpIn_skip ?_
      refine hK70 _ _ ?_
      refine wpIn_seq_k fun K74 hK74 => ?_
      refine region 3 (by kernel_rfl) ?_
      refine seg wide_wide [.p] [0, 5, 6, 12, 13, 14, 8, 152, 158] [] [(0, .pointer (some ⟨F.fb, 0, none⟩)), (5, .pointer (some ⟨r.t.b, 0, none⟩)), (6, .pointer (some ⟨r.rb, 0, none⟩)), (12, .pointer none), (13, .bool false), (14, .pointer none), (8, .bool false), (152, .bool false), (158, .pointer (some ⟨r.t.b, 0, none⟩))] 1 2 hS (by kernel_rfl) (by kernel_rfl) (by kernel_rfl) .nil fun a hS => ?_
      refine eff_call wide_wide (r := 1) (f := 25) (vs := [.pointer (some ⟨r.t.b, 0, none⟩)]) (cap := #[]) (d := (some 159)) hS (by kernel_rfl) Try.call25 #[.pointer (some ⟨r.t.b, 0, none⟩)] (by kernel_rfl) (Rows_any ((hF.ext0 hEx).ok.one r hrm).ok) ?_
      rintro _ w25 ⟨gr, cr, rfl, hOr, hE25, hgr⟩
      refine ⟨_, rfl, fun a hS => ?_⟩
      have hE25x := hEx.trans0 hE25
      have hB75 : Blk w25 F.fb 35 (#[.pointer (some ⟨F.s0, 0, none⟩), .pointer (some ⟨F.s1, 0, none⟩), .slice F.pb F.L.length F.pc, .slice F.qb F.L.length F.qc, .slice F.bb F.bn F.bc]) := hF1.f.ext hE25 (by simp)
      have hB76 : OwnV w25 47 1 (.slice F.pb F.L.length F.pc) F.L.length (F.L.map fun r => r.t.ptr) := hF1.P.ext hE25 (by simp)
      have hB77 : OwnV w25 29 1 (.slice F.qb F.L.length F.qc) F.L.length (F.L.map Rf.ptr) := hF1.R.ext hE25 (by simp)
      have hB78 : Blk w25 r.rb 40 (#[.int .i64 r.k, .int .i64 ↑r.i, .int .i64 r.t.kd, .int .i64 r.t.nn, .int .i64 r.t.lk, .int .i64 r.t.ls, .int .i64 r.t.ll, .int .i64 r.t.lr, r.kv, .int .i64 r.t.tt]) := hBr1.ext hE25 (by simp)
      have hB79 : Blk w25 r.t.b 106 (#[.pointer (some ⟨(sOf F.s0 F.s1 r.k), 0, none⟩), .int .i64 r.t.num, .int .i64 r.t.kd, .int .i64 r.t.nn, .int .i64 r.t.lk, .int .i64 r.t.ls, .int .i64 r.t.ll, .int .i64 r.t.lr, r.t.ks, .int .i64 r.t.wd, .int .i64 r.t.lf, .int .i64 r.t.tt, .bool r.t.fl]) := hTr1.ext hE25 (by simp)
      refine seg wide_wide [.p] [0, 5, 6, 12, 13, 14, 8, 152, 15] [] [(0, .pointer (some ⟨F.fb, 0, none⟩)), (5, .pointer (some ⟨r.t.b, 0, none⟩)), (6, .pointer (some ⟨r.rb, 0, none⟩)), (12, .pointer none), (13, .bool false), (14, .pointer none), (8, .bool false), (152, .bool false), (15, .slice (some ⟨gr, 0, none⟩) ((walk r.t 0).length) cr)] 3 0 hS (by kernel_rfl) (by kernel_rfl) (by kernel_rfl) .nil fun a hS => ?_
      refine seg_end ?_
      refine hK74 _ _ ?_
      refine wpIn_seq_k fun K80 hK80 => ?_
      refine region 3 (by kernel_rfl) ?_
      refine seg wide_wide [.p] [0, 5, 6, 12, 13, 14, 8, 152, 15, 160] [] [(0, .pointer (some ⟨F.fb, 0, none⟩)), (5, .pointer (some ⟨r.t.b, 0, none⟩)), (6, .pointer (some ⟨r.rb, 0, none⟩)), (12, .pointer none), (13, .bool false), (14, .pointer none), (8, .bool false), (152, .bool false), (15, .slice (some ⟨gr, 0, none⟩) ((walk r.t 0).length) cr), (160, .pointer (some ⟨r.rb, 0, none⟩))] 1 2 hS (by kernel_rfl) (by kernel_rfl) (by kernel_rfl) .nil fun a hS => ?_
      refine eff_call wide_wide (r := 1) (f := 14) (vs := [.pointer (some ⟨r.rb, 0, none⟩)]) (cap := #[]) (d := (some 161)) hS (by kernel_rfl) Try.call14 #[.pointer (some ⟨r.rb, 0, none⟩)] (by kernel_rfl) (RWalk_any (hF.ext0 hE25x).ok hrm) ?_
      rintro _ w14 ⟨lw, gw, cw, rfl, hlw, hOw, hE14, hgw, hpw⟩
      refine ⟨_, rfl, fun a hS => ?_⟩
      have hE14x := hE25x.trans0 hE14
      have hB81 : Blk w14 F.fb 35 (#[.pointer (some ⟨F.s0, 0, none⟩), .pointer (some ⟨F.s1, 0, none⟩), .slice F.pb F.L.length F.pc, .slice F.qb F.L.length F.qc, .slice F.bb F.bn F.bc]) := hB75.ext hE14 (by simp)
      have hB82 : OwnV w14 47 1 (.slice F.pb F.L.length F.pc) F.L.length (F.L.map fun r => r.t.ptr) := hB76.ext hE14 (by simp)
      have hB83 : OwnV w14 29 1 (.slice F.qb F.L.length F.qc) F.L.length (F.L.map Rf.ptr) := hB77.ext hE14 (by simp)
      have hB84 : Blk w14 r.rb 40 (#[.int .i64 r.k, .int .i64 ↑r.i, .int .i64 r.t.kd, .int .i64 r.t.nn, .int .i64 r.t.lk, .int .i64 r.t.ls, .int .i64 r.t.ll, .int .i64 r.t.lr, r.kv, .int .i64 r.t.tt]) := hB78.ext hE14 (by simp)
      have hB85 : Blk w14 r.t.b 106 (#[.pointer (some ⟨(sOf F.s0 F.s1 r.k), 0, none⟩), .int .i64 r.t.num, .int .i64 r.t.kd, .int .i64 r.t.nn, .int .i64 r.t.lk, .int .i64 r.t.ls, .int .i64 r.t.ll, .int .i64 r.t.lr, r.t.ks, .int .i64 r.t.wd, .int .i64 r.t.lf, .int .i64 r.t.tt, .bool r.t.fl]) := hB79.ext hE14 (by simp)
      have hB86 : OwnR w14 64 6 gr cr ((walk r.t 0).length) (rowsOf (walk r.t 0)) := hOr.ext hE14 (by simp)
      have hwk := rwalk_walk hF.ok r hrm 0 []
      have hlen : lw.length = (walk r.t 0).length := by rw [← hwk.1, List.length_map, ← hlw, List.length_map]
      have hwl := walk_len r.t (hF.ok.one r hrm).ok 0
      refine seg wide_wide [.p] [0, 5, 6, 12, 13, 14, 8, 152, 15, 16] [] [(0, .pointer (some ⟨F.fb, 0, none⟩)), (5, .pointer (some ⟨r.t.b, 0, none⟩)), (6, .pointer (some ⟨r.rb, 0, none⟩)), (12, .pointer none), (13, .bool false), (14, .pointer none), (8, .bool false), (152, .bool false), (15, .slice (some ⟨gr, 0, none⟩) ((walk r.t 0).length) cr), (16, .slice (some ⟨gw, 0, none⟩) lw.length cw)] 3 0 hS (by kernel_rfl) (by kernel_rfl) (by kernel_rfl) .nil fun a hS => ?_
      refine seg_end ?_
      refine hK80 _ _ ?_
      refine wpIn_seq_k fun K87 hK87 => ?_
      refine wpIn_seq_k fun K88 hK88 => ?_
      refine region 26 (by kernel_rfl) ?_
      refine seg wide_wide [.p, .p, .p, .p, .as (.bool false), .p, .p] [0, 5, 6, 12, 13, 14, 8, 152, 15, 16, 167, 168] [Value.bool ((((((walk r.t 0).length : Nat) : Int) : Int) != ↑lw.length)) = .bool false] [(0, .pointer (some ⟨F.fb, 0, none⟩)), (5, .pointer (some ⟨r.t.b, 0, none⟩)), (6, .pointer (some ⟨r.rb, 0, none⟩)), (12, .pointer none), (13, .bool false), (14, .pointer none), (8, .bool false), (152, .bool false), (15, .slice (some ⟨gr, 0, none⟩) ((walk r.t 0).length) cr), (16, .slice (some ⟨gw, 0, none⟩) lw.length cw), (167, .bool false), (168, .pointer (some ⟨r.t.b, 0, none⟩))] 7 19 hS (by kernel_rfl) (by kernel_rfl) (by kernel_rfl) (.cons (as_ne_f (by omega)) .nil) fun a hS => ?_
      refine eff_call_ro wide_wide (r := 18) (f := 19) (vs := [.pointer (some ⟨r.t.b, 0, none⟩)]) (cap := #[]) (d := (some 169)) (v := Value.int .i64 r.t.wd) hS (by kernel_rfl) Try.call19 #[.pointer (some ⟨r.t.b, 0, none⟩)] (by kernel_rfl) (Width_any (hB85 : Blk w14 r.t.b 106 (#[.pointer (some ⟨(sOf F.s0 F.s1 r.k), 0, none⟩), .int .i64 r.t.num, .int .i64 r.t.kd, .int .i64 r.t.nn, .int .i64 r.t.lk, .int .i64 r.t.ls, .int .i64 r.t.ll, .int .i64 r.t.lr, r.t.ks, .int .i64 r.t.wd, .int .i64 r.t.lf, .int .i64 r.t.tt, .bool r.t.fl]))) fun a hS => ?_
      refine seg wide_wide [.p] [0, 5, 6, 12, 13, 14, 8, 152, 15, 16, 167, 169, 170] [] [(0, .pointer (some ⟨F.fb, 0, none⟩)), (5, .pointer (some ⟨r.t.b, 0, none⟩)), (6, .pointer (some ⟨r.rb, 0, none⟩)), (12, .pointer none), (13, .bool false), (14, .pointer none), (8, .bool false), (152, .bool false), (15, .slice (some ⟨gr, 0, none⟩) ((walk r.t 0).length) cr), (16, .slice (some ⟨gw, 0, none⟩) lw.length cw), (167, .bool false), (169, .int .i64 r.t.wd), (170, .pointer (some ⟨r.rb, 0, none⟩))] 9 17 hS (by kernel_rfl) (by kernel_rfl) (by kernel_rfl) .nil fun a hS => ?_
      refine eff_call wide_wide (r := 16) (f := 65) (vs := [.pointer (some ⟨r.rb, 0, none⟩)]) (cap := #[]) (d := (some 171)) hS (by kernel_rfl) Try.call65 #[.pointer (some ⟨r.rb, 0, none⟩)] (by kernel_rfl) (RWidth r hrm w14 (hF.ext0 hE14x).ok) ?_
      rintro _ wRWidth ⟨rfl, hERWidth⟩
      refine ⟨_, rfl, fun a hS => ?_⟩
      have hERWidthx := hE14x.trans0 hERWidth
      have hB89 : Blk wRWidth F.fb 35 (#[.pointer (some ⟨F.s0, 0, none⟩), .pointer (some ⟨F.s1, 0, none⟩), .slice F.pb F.L.length F.pc, .slice F.qb F.L.length F.qc, .slice F.bb F.bn F.bc]) := hB81.ext hERWidth (by simp)
      have hB90 : OwnV wRWidth 47 1 (.slice F.pb F.L.length F.pc) F.L.length (F.L.map fun r => r.t.ptr) := hB82.ext hERWidth (by simp)
      have hB91 : OwnV wRWidth 29 1 (.slice F.qb F.L.length F.qc) F.L.length (F.L.map Rf.ptr) := hB83.ext hERWidth (by simp)
      have hB92 : Blk wRWidth r.rb 40 (#[.int .i64 r.k, .int .i64 ↑r.i, .int .i64 r.t.kd, .int .i64 r.t.nn, .int .i64 r.t.lk, .int .i64 r.t.ls, .int .i64 r.t.ll, .int .i64 r.t.lr, r.kv, .int .i64 r.t.tt]) := hB84.ext hERWidth (by simp)
      have hB93 : Blk wRWidth r.t.b 106 (#[.pointer (some ⟨(sOf F.s0 F.s1 r.k), 0, none⟩), .int .i64 r.t.num, .int .i64 r.t.kd, .int .i64 r.t.nn, .int .i64 r.t.lk, .int .i64 r.t.ls, .int .i64 r.t.ll, .int .i64 r.t.lr, r.t.ks, .int .i64 r.t.wd, .int .i64 r.t.lf, .int .i64 r.t.tt, .bool r.t.fl]) := hB85.ext hERWidth (by simp)
      have hB94 : OwnR wRWidth 64 6 gr cr ((walk r.t 0).length) (rowsOf (walk r.t 0)) := hB86.ext hERWidth (by simp)
      have hB95 : OwnR wRWidth 43 3 gw cw lw.length (spc lw) := hOw.ext hERWidth (by simp)
      refine seg wide_wide [.as (.bool false), .p, .p, .p] [0, 5, 6, 12, 13, 14, 8, 152, 15, 16, 174, 175] [Value.bool (((r.t.wd : Int) != r.t.wd)) = .bool false] [(0, .pointer (some ⟨F.fb, 0, none⟩)), (5, .pointer (some ⟨r.t.b, 0, none⟩)), (6, .pointer (some ⟨r.rb, 0, none⟩)), (12, .pointer none), (13, .bool false), (14, .pointer none), (8, .bool false), (152, .bool false), (15, .slice (some ⟨gr, 0, none⟩) ((walk r.t 0).length) cr), (16, .slice (some ⟨gw, 0, none⟩) lw.length cw), (174, .bool false), (175, .pointer (some ⟨r.t.b, 0, none⟩))] 14 12 hS (by kernel_rfl) (by kernel_rfl) (by kernel_rfl) (.cons (as_ne_f (rfl)) .nil) fun a hS => ?_
      refine eff_call_ro wide_wide (r := 11) (f := 21) (vs := [.pointer (some ⟨r.t.b, 0, none⟩)]) (cap := #[]) (d := (some 176)) (v := Value.int .i64 r.t.lf) hS (by kernel_rfl) Try.call21 #[.pointer (some ⟨r.t.b, 0, none⟩)] (by kernel_rfl) (Leafs_any (hB93 : Blk wRWidth r.t.b 106 (#[.pointer (some ⟨(sOf F.s0 F.s1 r.k), 0, none⟩), .int .i64 r.t.num, .int .i64 r.t.kd, .int .i64 r.t.nn, .int .i64 r.t.lk, .int .i64 r.t.ls, .int .i64 r.t.ll, .int .i64 r.t.lr, r.t.ks, .int .i64 r.t.wd, .int .i64 r.t.lf, .int .i64 r.t.tt, .bool r.t.fl]))) fun a hS => ?_
      refine seg wide_wide [.p] [0, 5, 6, 12, 13, 14, 8, 152, 15, 16, 174, 176, 177] [] [(0, .pointer (some ⟨F.fb, 0, none⟩)), (5, .pointer (some ⟨r.t.b, 0, none⟩)), (6, .pointer (some ⟨r.rb, 0, none⟩)), (12, .pointer none), (13, .bool false), (14, .pointer none), (8, .bool false), (152, .bool false), (15, .slice (some ⟨gr, 0, none⟩) ((walk r.t 0).length) cr), (16, .slice (some ⟨gw, 0, none⟩) lw.length cw), (174, .bool false), (176, .int .i64 r.t.lf), (177, .pointer (some ⟨r.rb, 0, none⟩))] 16 10 hS (by kernel_rfl) (by kernel_rfl) (by kernel_rfl) .nil fun a hS => ?_
      refine eff_call wide_wide (r := 9) (f := 66) (vs := [.pointer (some ⟨r.rb, 0, none⟩)]) (cap := #[]) (d := (some 178)) hS (by kernel_rfl) Try.call66 #[.pointer (some ⟨r.rb, 0, none⟩)] (by kernel_rfl) (RLeafs r hrm wRWidth (hF.ext0 hERWidthx).ok) ?_
      rintro _ wRLeafs ⟨rfl, hERLeafs⟩
      refine ⟨_, rfl, fun a hS => ?_⟩
      have hERLeafsx := hERWidthx.trans0 hERLeafs
      have hB96 : Blk wRLeafs F.fb 35 (#[.pointer (some ⟨F.s0, 0, none⟩), .pointer (some ⟨F.s1, 0, none⟩), .slice F.pb F.L.length F.pc, .slice F.qb F.L.length F.qc, .slice F.bb F.bn F.bc]) := hB89.ext hERLeafs (by simp)
      have hB97 : OwnV wRLeafs 47 1 (.slice F.pb F.L.length F.pc) F.L.length (F.L.map fun r => r.t.ptr) := hB90.ext hERLeafs (by simp)
      have hB98 : OwnV wRLeafs 29 1 (.slice F.qb F.L.length F.qc) F.L.length (F.L.map Rf.ptr) := hB91.ext hERLeafs (by simp)
      have hB99 : Blk wRLeafs r.rb 40 (#[.int .i64 r.k, .int .i64 ↑r.i, .int .i64 r.t.kd, .int .i64 r.t.nn, .int .i64 r.t.lk, .int .i64 r.t.ls, .int .i64 r.t.ll, .int .i64 r.t.lr, r.kv, .int .i64 r.t.tt]) := hB92.ext hERLeafs (by simp)
      have hB100 : Blk wRLeafs r.t.b 106 (#[.pointer (some ⟨(sOf F.s0 F.s1 r.k), 0, none⟩), .int .i64 r.t.num, .int .i64 r.t.kd, .int .i64 r.t.nn, .int .i64 r.t.lk, .int .i64 r.t.ls, .int .i64 r.t.ll, .int .i64 r.t.lr, r.t.ks, .int .i64 r.t.wd, .int .i64 r.t.lf, .int .i64 r.t.tt, .bool r.t.fl]) := hB93.ext hERLeafs (by simp)
      have hB101 : OwnR wRLeafs 64 6 gr cr ((walk r.t 0).length) (rowsOf (walk r.t 0)) := hB94.ext hERLeafs (by simp)
      have hB102 : OwnR wRLeafs 43 3 gw cw lw.length (spc lw) := hB95.ext hERLeafs (by simp)
      refine seg wide_wide [.as (.bool false), .p, .p, .p] [0, 5, 6, 12, 13, 14, 8, 152, 15, 16, 181, 182] [Value.bool (((r.t.lf : Int) != r.t.lf)) = .bool false] [(0, .pointer (some ⟨F.fb, 0, none⟩)), (5, .pointer (some ⟨r.t.b, 0, none⟩)), (6, .pointer (some ⟨r.rb, 0, none⟩)), (12, .pointer none), (13, .bool false), (14, .pointer none), (8, .bool false), (152, .bool false), (15, .slice (some ⟨gr, 0, none⟩) ((walk r.t 0).length) cr), (16, .slice (some ⟨gw, 0, none⟩) lw.length cw), (181, .bool false), (182, .pointer (some ⟨r.t.b, 0, none⟩))] 21 5 hS (by kernel_rfl) (by kernel_rfl) (by kernel_rfl) (.cons (as_ne_f (rfl)) .nil) fun a hS => ?_
      refine eff_call_ro wide_wide (r := 4) (f := 23) (vs := [.pointer (some ⟨r.t.b, 0, none⟩)]) (cap := #[]) (d := (some 183)) (v := Value.bool r.t.fl) hS (by kernel_rfl) Try.call23 #[.pointer (some ⟨r.t.b, 0, none⟩)] (by kernel_rfl) (Failed_any (hB100 : Blk wRLeafs r.t.b 106 (#[.pointer (some ⟨(sOf F.s0 F.s1 r.k), 0, none⟩), .int .i64 r.t.num, .int .i64 r.t.kd, .int .i64 r.t.nn, .int .i64 r.t.lk, .int .i64 r.t.ls, .int .i64 r.t.ll, .int .i64 r.t.lr, r.t.ks, .int .i64 r.t.wd, .int .i64 r.t.lf, .int .i64 r.t.tt, .bool r.t.fl]))) fun a hS => ?_
      refine seg wide_wide [.p] [0, 5, 6, 12, 13, 14, 8, 152, 15, 16, 181, 183, 184] [] [(0, .pointer (some ⟨F.fb, 0, none⟩)), (5, .pointer (some ⟨r.t.b, 0, none⟩)), (6, .pointer (some ⟨r.rb, 0, none⟩)), (12, .pointer none), (13, .bool false), (14, .pointer none), (8, .bool false), (152, .bool false), (15, .slice (some ⟨gr, 0, none⟩) ((walk r.t 0).length) cr), (16, .slice (some ⟨gw, 0, none⟩) lw.length cw), (181, .bool false), (183, .bool r.t.fl), (184, .pointer (some ⟨r.rb, 0, none⟩))] 23 3 hS (by kernel_rfl) (by kernel_rfl) (by kernel_rfl) .nil fun a hS => ?_
      refine eff_call wide_wide (r := 2) (f := 67) (vs := [.pointer (some ⟨r.rb, 0, none⟩)]) (cap := #[]) (d := (some 185)) hS (by kernel_rfl) Try.call67 #[.pointer (some ⟨r.rb, 0, none⟩)] (by kernel_rfl) (RFailed r hrm wRLeafs (hF.ext0 hERLeafsx).ok) ?_
      rintro _ wRFailed ⟨rfl, hERFailed⟩
      refine ⟨_, rfl, fun a hS => ?_⟩
      have hERFailedx := hERLeafsx.trans0 hERFailed
      have hB103 : Blk wRFailed F.fb 35 (#[.pointer (some ⟨F.s0, 0, none⟩), .pointer (some ⟨F.s1, 0, none⟩), .slice F.pb F.L.length F.pc, .slice F.qb F.L.length F.qc, .slice F.bb F.bn F.bc]) := hB96.ext hERFailed (by simp)
      have hB104 : OwnV wRFailed 47 1 (.slice F.pb F.L.length F.pc) F.L.length (F.L.map fun r => r.t.ptr) := hB97.ext hERFailed (by simp)
      have hB105 : OwnV wRFailed 29 1 (.slice F.qb F.L.length F.qc) F.L.length (F.L.map Rf.ptr) := hB98.ext hERFailed (by simp)
      have hB106 : Blk wRFailed r.rb 40 (#[.int .i64 r.k, .int .i64 ↑r.i, .int .i64 r.t.kd, .int .i64 r.t.nn, .int .i64 r.t.lk, .int .i64 r.t.ls, .int .i64 r.t.ll, .int .i64 r.t.lr, r.kv, .int .i64 r.t.tt]) := hB99.ext hERFailed (by simp)
      have hB107 : Blk wRFailed r.t.b 106 (#[.pointer (some ⟨(sOf F.s0 F.s1 r.k), 0, none⟩), .int .i64 r.t.num, .int .i64 r.t.kd, .int .i64 r.t.nn, .int .i64 r.t.lk, .int .i64 r.t.ls, .int .i64 r.t.ll, .int .i64 r.t.lr, r.t.ks, .int .i64 r.t.wd, .int .i64 r.t.lf, .int .i64 r.t.tt, .bool r.t.fl]) := hB100.ext hERFailed (by simp)
      have hB108 : OwnR wRFailed 64 6 gr cr ((walk r.t 0).length) (rowsOf (walk r.t 0)) := hB101.ext hERFailed (by simp)
      have hB109 : OwnR wRFailed 43 3 gw cw lw.length (spc lw) := hB102.ext hERFailed (by simp)
      refine seg wide_wide [.as (.bool false), .p] [0, 5, 6, 12, 13, 14, 8, 152, 15, 16, 187] [Value.bool (!(r.t.fl == r.t.fl)) = .bool false] [(0, .pointer (some ⟨F.fb, 0, none⟩)), (5, .pointer (some ⟨r.t.b, 0, none⟩)), (6, .pointer (some ⟨r.rb, 0, none⟩)), (12, .pointer none), (13, .bool false), (14, .pointer none), (8, .bool false), (152, .bool false), (15, .slice (some ⟨gr, 0, none⟩) ((walk r.t 0).length) cr), (16, .slice (some ⟨gw, 0, none⟩) lw.length cw), (187, .bool false)] 26 0 hS (by kernel_rfl) (by kernel_rfl) (by kernel_rfl) (.cons ((by simp)) .nil) fun a hS => ?_
      refine seg_end ?_
      refine hK88 _ _ ?_
      refine cond_f hS rfl ?_
      refine wpIn_skip ?_
      refine hK87 _ _ ?_
      refine wpIn_seq_k fun K110 hK110 => ?_
      refine wpIn_seq_k fun K111 hK111 => ?_
      refine region 1 (by kernel_rfl) ?_
      refine seg wide_wide [.p] [0, 5, 6, 12, 13, 14, 8, 152, 15, 16, 187, 17] [] [(0, .pointer (some ⟨F.fb, 0, none⟩)), (5, .pointer (some ⟨r.t.b, 0, none⟩)), (6, .pointer (some ⟨r.rb, 0, none⟩)), (12, .pointer none), (13, .bool false), (14, .pointer none), (8, .bool false), (152, .bool false), (15, .slice (some ⟨gr, 0, none⟩) ((walk r.t 0).length) cr), (16, .slice (some ⟨gw, 0, none⟩) lw.length cw), (187, .bool false), (17, .int .i64 0)] 1 0 hS (by kernel_rfl) (by kernel_rfl) (by kernel_rfl) .nil fun a hS => ?_
      refine seg_end ?_
      refine hK111 _ _ ?_
      refine wpIn_block ?_
      have hOr0 := hB108
      have hOw0 := hB109
      have hE0q := hERFailedx
      refine loop_ghost (fun (k : Nat) a' w' => St 207 [] [(0, .pointer (some ⟨F.fb, 0, none⟩)), (15, .slice (some ⟨gr, 0, none⟩) ((walk r.t 0).length) cr), (16, .slice (some ⟨gw, 0, none⟩) lw.length cw), (17, .int .i64 ↑k)] a' ∧ k ≤ (walk r.t 0).length ∧ Ext [] wRFailed w' ∧ Ext [] w w') (fun (k : Nat) => (walk r.t 0).length - k) 0 ⟨hS.keepTo [0, 15, 16, 17] (by kernel_rfl), Nat.zero_le _, Ext.refl _ _, hE0q⟩ ?_
      rintro k a w1 ⟨hS, hkl2, hEq, hEy⟩
      have hF2 := hF.ext0 hEy
      have hOr1 := hOr0.ext hEq (by simp)
      have hOw1 := hOw0.ext hEq (by simp)
      have hEq0 : Ext [] w1 w1 := Ext.refl _ _
      refine wpIn_seq_k fun K112 hK112 => ?_
      refine wpIn_seq_k fun K113 hK113 => ?_
      refine region 4 (by kernel_rfl) ?_
      refine seg wide_wide [.p, .p, .p, .p] [0, 15, 16, 17, 191] [] [(0, .pointer (some ⟨F.fb, 0, none⟩)), (15, .slice (some ⟨gr, 0, none⟩) ((walk r.t 0).length) cr), (16, .slice (some ⟨gw, 0, none⟩) lw.length cw), (17, .int .i64 ↑k), (191, .bool (decide ((↑k : Int) < (((walk r.t 0).length : Nat) : Int))))] 4 0 hS (by kernel_rfl) (by kernel_rfl) (by kernel_rfl) .nil fun a hS => ?_
      refine seg_end ?_
      refine hK113 _ _ ?_
      refine cond_b hS rfl (fun hb114 => ?_) (fun hb114 => ?_)
      · -- decide ((↑k : Int) < (((walk r.t 0).length : Nat) : Int)) is true
        replace hb114 := of_decide_eq_true hb114
        have hk : k < (walk r.t 0).length := by omega
        obtain ⟨⟨sp, pv⟩, hsp⟩ : ∃ q, lw[k]? = some q := ⟨_, List.getElem?_eq_getElem (by omega)⟩
        have hspm : sp ∈ rwalk r 0 [] := by rw [← hlw]; exact List.mem_map.2 ⟨_, List.mem_of_getElem? hsp, rfl⟩
        have hqm : sp.r ∈ F.L := hwk.2 sp hspm
        have hwat : (walk r.t 0)[k]? = some (sp.at_, sp.r.t) := by rw [← hwk.1, ← hlw]; simp [hsp]
        have hklq := hF.ok.klen hqm
        have hcr : ∀ i, i < 6 → (rowsOf (walk r.t 0))[0 + k * 6 + i]? = (rowc sp.r.t)[i]? := fun i hi => rowsOf_at _ k i _ hwat hi
        have hcw := spc_at lw k 0 _ hsp (by omega)
        have hrowq2 := (hF2.ok.one sp.r hqm).row
        have hBq2 : Blk w1 sp.r.rb 40 #[.int .i64 sp.r.k, .int .i64 ↑sp.r.i, .int .i64 sp.r.t.kd, .int .i64 sp.r.t.nn, .int .i64 sp.r.t.lk, .int .i64 sp.r.t.ls, .int .i64 sp.r.t.ll, .int .i64 sp.r.t.lr, sp.r.kv, .int .i64 sp.r.t.tt] := (hF2.ok.one sp.r hqm).blk
        have hTq2 : Blk w1 sp.r.t.b 106 #[.pointer (some ⟨(sOf F.s0 F.s1 sp.r.k), 0, none⟩), .int .i64 sp.r.t.num, .int .i64 sp.r.t.kd, .int .i64 sp.r.t.nn, .int .i64 sp.r.t.lk, .int .i64 sp.r.t.ls, .int .i64 sp.r.t.ll, .int .i64 sp.r.t.lr, sp.r.t.ks, .int .i64 sp.r.t.wd, .int .i64 sp.r.t.lf, .int .i64 sp.r.t.tt, .bool sp.r.t.fl] := (hF2.ok.one sp.r hqm).ok.blk
        refine wpIn_skip ?_
        refine hK112 _ _ ?_
        refine wpIn_seq_k fun K115 hK115 => ?_
        refine wpIn_block ?_
        refine wpIn_seq_k fun K116 hK116 => ?_
        refine region_gh2 (G := World × World) wide_wide [.q .p, .q .p, .q .p, .q (.run (.pointer (some ⟨gr, 0 + k * 6, none⟩))), .q (.lds [.int .i64 sp.r.t.kd, .int .i64 sp.r.t.nn, .int .i64 sp.r.t.ls, .int .i64 sp.r.t.ll, .int .i64 ↑sp.r.kids.length, .int .i64 sp.r.t.num]), .q .p, .q .p, .q (.run (.pointer (some ⟨gw, 0 + k * 3, none⟩))), .q .p, .q (.ld (.pointer (some ⟨sp.r.rb, 0, none⟩))), .e, .e, .q .p] [0, 0, 0, 0, 0, 0, 0, 0, 0, 0, 0, 1, 2] [1, 1, 1, 1, 1, 0, 0, 0, 0, 0, 0, 1, 2] [0, 0, 0, 6, 14, 0, 0, 96, 224, 480, 992, 2047, 4095] [10, 11] [(10, 0), (11, 1)] 2 (fun ⟨w69, w68⟩ => ([(0, .pointer (some ⟨F.fb, 0, none⟩)), (15, .slice (some ⟨gr, 0, none⟩) ((walk r.t 0).length) cr), (16, .slice (some ⟨gw, 0, none⟩) lw.length cw), (17, .int .i64 ↑k), (194, .pointer (some ⟨F.fb, 0, none⟩)), (195, .slice (some ⟨gr, 0, none⟩) ((walk r.t 0).length) cr), (196, .int .i64 ↑k), (197, .pointer (some ⟨gr, 0 + k * 6, none⟩)), (198, .agg #[.int .i64 sp.r.t.kd, .int .i64 sp.r.t.nn, .int .i64 sp.r.t.ls, .int .i64 sp.r.t.ll, .int .i64 ↑sp.r.kids.length, .int .i64 sp.r.t.num]), (199, .slice (some ⟨gw, 0, none⟩) lw.length cw), (200, .int .i64 ↑k), (201, .pointer (some ⟨gw, 0 + k * 3, none⟩)), (202, .pointer (some ⟨gw, 0 + k * 3, none⟩)), (203, .pointer (some ⟨sp.r.rb, 0, none⟩)), (204, .agg #[.int .i64 sp.r.t.kd, .int .i64 sp.r.t.nn, .int .i64 sp.r.t.ls, .int .i64 sp.r.t.ll, .int .i64 ↑sp.r.kids.length, .int .i64 ↑sp.r.i]), (205, .bool true), (206, .bool false)] : Fm)) (fun ⟨w69, w68⟩ => [w1.drew, w69, w68]) (w1.drew) (fun e ⟨w69, w68⟩ => hAt [True, (Ext [] w1.drew w69) ∧ True, (Ext [] w1.drew w69) ∧ (Ext [] w69 w68) ∧ True] e) (fun ⟨w69, w68⟩ w' => [(3, [Sem.run Try.prog (vS (Instr.indexAt 54 (.slice (some ⟨gr, 0, none⟩) ((walk r.t 0).length) cr) (.int .i64 ↑k))) w' = .ok (.value (.pointer (some ⟨gr, 0 + k * 6, none⟩))) w']), (4, [w'.cell? ⟨gr, 0 + k * 6, none⟩ = some (.int .i64 sp.r.t.kd), w'.cell? ⟨gr, 0 + k * 6 + 1, none⟩ = some (.int .i64 sp.r.t.nn), w'.cell? ⟨gr, 0 + k * 6 + 2, none⟩ = some (.int .i64 sp.r.t.ls), w'.cell? ⟨gr, 0 + k * 6 + 3, none⟩ = some (.int .i64 sp.r.t.ll), w'.cell? ⟨gr, 0 + k * 6 + 4, none⟩ = some (.int .i64 ↑sp.r.kids.length), w'.cell? ⟨gr, 0 + k * 6 + 5, none⟩ = some (.int .i64 sp.r.t.num)]), (7, [Sem.run Try.prog (vS (Instr.indexAt 28 (.slice (some ⟨gw, 0, none⟩) lw.length cw) (.int .i64 ↑k))) w' = .ok (.value (.pointer (some ⟨gw, 0 + k * 3, none⟩))) w']), (9, [w'.cell? ⟨gw, 0 + k * 3, none⟩ = some (.pointer (some ⟨sp.r.rb, 0, none⟩))])]) (w1.drew, w1) [0, 15, 16, 17] [] hS (by kernel_rfl) (by kernel_rfl) (by kernel_rfl) (by kernel_rfl) (fun ⟨w69, w68⟩ _ => by kernel_rfl) (by kernel_rfl) (by kernel_rfl) (by kernel_rfl) trivial ?_ (by kernel_rfl) ?_ ?_
        · rintro e ⟨w69, w68⟩ w' hw hH
          have ho3 : 0 ≤ e → e ≤ 1 → AllP [Sem.run Try.prog (vS (Instr.indexAt 54 (.slice (some ⟨gr, 0, none⟩) ((walk r.t 0).length) cr) (.int .i64 ↑k))) w' = .ok (.value (.pointer (some ⟨gr, 0 + k * 6, none⟩))) w'] := fun h1 h2 => by
            have he : e = 0 ∨ e = 1 := by omega
            rcases he with rfl | rfl
            · have hwe : w1.drew = w' := (hw.trans (by kernel_rfl)).symm
              subst hwe
              clear hH
              exact (.cons (ix_slice (E := 64) (size := 6) (j := k) (by kernel_rfl) (by kernel_rfl) rfl (by omega)) .nil)
            · have hwe : w69 = w' := (hw.trans (by kernel_rfl)).symm
              subst hwe
              obtain ⟨hE69, _⟩ := hH
              exact (.cons (ix_slice (E := 64) (size := 6) (j := k) (by kernel_rfl) (by kernel_rfl) rfl (by omega)) .nil)
          have ho4 : 0 ≤ e → e ≤ 1 → AllP [w'.cell? ⟨gr, 0 + k * 6, none⟩ = some (.int .i64 sp.r.t.kd), w'.cell? ⟨gr, 0 + k * 6 + 1, none⟩ = some (.int .i64 sp.r.t.nn), w'.cell? ⟨gr, 0 + k * 6 + 2, none⟩ = some (.int .i64 sp.r.t.ls), w'.cell? ⟨gr, 0 + k * 6 + 3, none⟩ = some (.int .i64 sp.r.t.ll), w'.cell? ⟨gr, 0 + k * 6 + 4, none⟩ = some (.int .i64 ↑sp.r.kids.length), w'.cell? ⟨gr, 0 + k * 6 + 5, none⟩ = some (.int .i64 sp.r.t.num)] := fun h1 h2 => by
            have he : e = 0 ∨ e = 1 := by omega
            rcases he with rfl | rfl
            · have hwe : w1.drew = w' := (hw.trans (by kernel_rfl)).symm
              subst hwe
              clear hH
              exact (.cons ((hOr1.drew : OwnR w1.drew 64 6 gr cr ((walk r.t 0).length) (rowsOf (walk r.t 0))).cellAt _ (by rw [show 0 + k * 6 = 0 + k * 6 + 0 from rfl, hcr 0 (by omega)]; simp [rowc])) (.cons ((hOr1.drew : OwnR w1.drew 64 6 gr cr ((walk r.t 0).length) (rowsOf (walk r.t 0))).cellAt _ (by rw [hcr 1 (by omega)]; simp [rowc])) (.cons ((hOr1.drew : OwnR w1.drew 64 6 gr cr ((walk r.t 0).length) (rowsOf (walk r.t 0))).cellAt _ (by rw [hcr 2 (by omega)]; simp [rowc])) (.cons ((hOr1.drew : OwnR w1.drew 64 6 gr cr ((walk r.t 0).length) (rowsOf (walk r.t 0))).cellAt _ (by rw [hcr 3 (by omega)]; simp [rowc])) (.cons ((hOr1.drew : OwnR w1.drew 64 6 gr cr ((walk r.t 0).length) (rowsOf (walk r.t 0))).cellAt _ (by rw [hcr 4 (by omega)]; simp [rowc, hklq])) (.cons ((hOr1.drew : OwnR w1.drew 64 6 gr cr ((walk r.t 0).length) (rowsOf (walk r.t 0))).cellAt _ (by rw [hcr 5 (by omega)]; simp [rowc])) .nil))))))
            · have hwe : w69 = w' := (hw.trans (by kernel_rfl)).symm
              subst hwe
              obtain ⟨hE69, _⟩ := hH
              exact (.cons (((hOr1.drew).ext hE69 (by simp) : OwnR w69 64 6 gr cr ((walk r.t 0).length) (rowsOf (walk r.t 0))).cellAt _ (by rw [show 0 + k * 6 = 0 + k * 6 + 0 from rfl, hcr 0 (by omega)]; simp [rowc])) (.cons (((hOr1.drew).ext hE69 (by simp) : OwnR w69 64 6 gr cr ((walk r.t 0).length) (rowsOf (walk r.t 0))).cellAt _ (by rw [hcr 1 (by omega)]; simp [rowc])) (.cons (((hOr1.drew).ext hE69 (by simp) : OwnR w69 64 6 gr cr ((walk r.t 0).length) (rowsOf (walk r.t 0))).cellAt _ (by rw [hcr 2 (by omega)]; simp [rowc])) (.cons (((hOr1.drew).ext hE69 (by simp) : OwnR w69 64 6 gr cr ((walk r.t 0).length) (rowsOf (walk r.t 0))).cellAt _ (by rw [hcr 3 (by omega)]; simp [rowc])) (.cons (((hOr1.drew).ext hE69 (by simp) : OwnR w69 64 6 gr cr ((walk r.t 0).length) (rowsOf (walk r.t 0))).cellAt _ (by rw [hcr 4 (by omega)]; simp [rowc, hklq])) (.cons (((hOr1.drew).ext hE69 (by simp) : OwnR w69 64 6 gr cr ((walk r.t 0).length) (rowsOf (walk r.t 0))).cellAt _ (by rw [hcr 5 (by omega)]; simp [rowc])) .nil))))))
          have ho7 : 0 ≤ e → e ≤ 0 → AllP [Sem.run Try.prog (vS (Instr.indexAt 28 (.slice (some ⟨gw, 0, none⟩) lw.length cw) (.int .i64 ↑k))) w' = .ok (.value (.pointer (some ⟨gw, 0 + k * 3, none⟩))) w'] := fun h1 h2 => by
            obtain rfl : e = 0 := by omega
            have hwe : w1.drew = w' := (hw.trans (by kernel_rfl)).symm
            subst hwe
            clear hH
            exact (.cons (ix_slice (E := 43) (size := 3) (j := k) (by kernel_rfl) (by kernel_rfl) rfl (by omega)) .nil)
          have ho9 : 0 ≤ e → e ≤ 0 → AllP [w'.cell? ⟨gw, 0 + k * 3, none⟩ = some (.pointer (some ⟨sp.r.rb, 0, none⟩))] := fun h1 h2 => by
            obtain rfl : e = 0 := by omega
            have hwe : w1.drew = w' := (hw.trans (by kernel_rfl)).symm
            subst hwe
            clear hH
            exact (.cons ((hOw1.drew : OwnR w1.drew 43 3 gw cw lw.length (spc lw)).cellAt _ (by simpa [Rf.ptr] using hcw)) .nil)
          exact (.cons (fun h1 h2 => ho3 h1 h2) (.cons (fun h1 h2 => ho4 h1 h2) (.cons (fun h1 h2 => ho7 h1 h2) (.cons (fun h1 h2 => ho9 h1 h2) .nil))))
        · refine (.cons ?eq117_10 (.cons ?eq117_11 .nil))
          · rintro ⟨w69, w68⟩ hH
            clear hH
            refine eff_gh (w1.drew) (by kernel_rfl) ?_
            refine upon_call (f := 69) (vs := [.pointer (some ⟨sp.r.rb, 0, none⟩)]) (cap := #[]) (d := (some 204)) (by kernel_rfl) Try.call69 #[.pointer (some ⟨sp.r.rb, 0, none⟩)] (by kernel_rfl) (RRow_any (hBq2.drew : Blk w1.drew sp.r.rb 40 (#[.int .i64 sp.r.k, .int .i64 ↑sp.r.i, .int .i64 sp.r.t.kd, .int .i64 sp.r.t.nn, .int .i64 sp.r.t.lk, .int .i64 sp.r.t.ls, .int .i64 sp.r.t.ll, .int .i64 sp.r.t.lr, sp.r.kv, .int .i64 sp.r.t.tt])) (hrowq2.ext ((Ext.refl [] w1).drew) (by simp))) ?_
            rintro _ w69 ⟨rfl, hE69⟩
            exact ⟨_, rfl, ⟨(w69, w68), by kernel_rfl, by kernel_rfl, by kernel_rfl, ⟨hE69, trivial⟩⟩⟩
          · rintro ⟨w69, w68⟩ hH
            obtain ⟨hE69, _⟩ := hH
            refine eff_gh (w69) (by kernel_rfl) ?_
            refine upon_call (f := 68) (vs := [.pointer (some ⟨F.fb, 0, none⟩), .agg #[.int .i64 sp.r.t.kd, .int .i64 sp.r.t.nn, .int .i64 sp.r.t.ls, .int .i64 sp.r.t.ll, .int .i64 ↑sp.r.kids.length, .int .i64 sp.r.t.num], .agg #[.int .i64 sp.r.t.kd, .int .i64 sp.r.t.nn, .int .i64 sp.r.t.ls, .int .i64 sp.r.t.ll, .int .i64 ↑sp.r.kids.length, .int .i64 ↑sp.r.i]]) (cap := #[]) (d := (some 205)) (by kernel_rfl) Try.call68 #[.pointer (some ⟨F.fb, 0, none⟩), .agg #[.int .i64 sp.r.t.kd, .int .i64 sp.r.t.nn, .int .i64 sp.r.t.ls, .int .i64 sp.r.t.ll, .int .i64 ↑sp.r.kids.length, .int .i64 sp.r.t.num], .agg #[.int .i64 sp.r.t.kd, .int .i64 sp.r.t.nn, .int .i64 sp.r.t.ls, .int .i64 sp.r.t.ll, .int .i64 ↑sp.r.kids.length, .int .i64 ↑sp.r.i]] (by kernel_rfl) (SameRow_yes (q := sp.r) ((hF2.ext0 ((Ext.refl [] w1).drew)).ext0 hE69) hqm) ?_
            rintro _ w68 ⟨rfl, hE68⟩
            exact ⟨_, rfl, ⟨(w69, w68), by kernel_rfl, by kernel_rfl, by kernel_rfl, ⟨hE69, hE68, trivial⟩⟩⟩
        rintro ⟨w69, w68⟩ a w118 hS hw119 hH
        obtain ⟨hE69, hE68, _⟩ := hH
        replace hw119 : w118 = w68 := hw119.trans (by kernel_rfl)
        have hB120 : Blk w118 F.fb 35 (#[.pointer (some ⟨F.s0, 0, none⟩), .pointer (some ⟨F.s1, 0, none⟩), .slice F.pb F.L.length F.pc, .slice F.qb F.L.length F.qc, .slice F.bb F.bn F.bc]) := by rw [hw119]; exact ((hF2.f.drew).ext hE69 (by simp)).ext hE68 (by simp)
        have hB121 : OwnV w118 47 1 (.slice F.pb F.L.length F.pc) F.L.length (F.L.map fun r => r.t.ptr) := by rw [hw119]; exact ((hF2.P.drew).ext hE69 (by simp)).ext hE68 (by simp)
        have hB122 : OwnV w118 29 1 (.slice F.qb F.L.length F.qc) F.L.length (F.L.map Rf.ptr) := by rw [hw119]; exact ((hF2.R.drew).ext hE69 (by simp)).ext hE68 (by simp)
        have hB123 : OwnR w118 64 6 gr cr ((walk r.t 0).length) (rowsOf (walk r.t 0)) := by rw [hw119]; exact ((hOr1.drew).ext hE69 (by simp)).ext hE68 (by simp)
        have hB124 : OwnR w118 43 3 gw cw lw.length (spc lw) := by rw [hw119]; exact ((hOw1.drew).ext hE69 (by simp)).ext hE68 (by simp)
        have hB125 : Blk w118 sp.r.rb 40 (#[.int .i64 sp.r.k, .int .i64 ↑sp.r.i, .int .i64 sp.r.t.kd, .int .i64 sp.r.t.nn, .int .i64 sp.r.t.lk, .int .i64 sp.r.t.ls, .int .i64 sp.r.t.ll, .int .i64 sp.r.t.lr, sp.r.kv, .int .i64 sp.r.t.tt]) := by rw [hw119]; exact ((hBq2.drew).ext hE69 (by simp)).ext hE68 (by simp)
        have hB126 : Blk w118 sp.r.t.b 106 (#[.pointer (some ⟨(sOf F.s0 F.s1 sp.r.k), 0, none⟩), .int .i64 sp.r.t.num, .int .i64 sp.r.t.kd, .int .i64 sp.r.t.nn, .int .i64 sp.r.t.lk, .int .i64 sp.r.t.ls, .int .i64 sp.r.t.ll, .int .i64 sp.r.t.lr, sp.r.t.ks, .int .i64 sp.r.t.wd, .int .i64 sp.r.t.lf, .int .i64 sp.r.t.tt, .bool sp.r.t.fl]) := by rw [hw119]; exact ((hTq2.drew).ext hE69 (by simp)).ext hE68 (by simp)
        have hE127 : Ext [] w w118 := by rw [hw119]; exact ((hEy.drew).trans0 hE69).trans0 hE68
        have hX128 : Ext [] w1 w118 := by rw [hw119]; exact (((Ext.refl _ _).drew).trans0 hE69).trans0 hE68
        have hG129 : Ext [] wRFailed w118 := hEq.trans0 hX128
        replace hS := hS.keepTo [0, 15, 16, 17, 206] (m' := [(0, .pointer (some ⟨F.fb, 0, none⟩)), (15, .slice (some ⟨gr, 0, none⟩) ((walk r.t 0).length) cr), (16, .slice (some ⟨gw, 0, none⟩) lw.length cw), (17, .int .i64 ↑k), (206, .bool false)]) (by kernel_rfl)
        refine hK116 _ _ ?_
        refine cond_f hS rfl ?_
        refine wpIn_skip ?_
        refine inBlock_normal ?_
        refine hK115 _ _ ?_
        refine region 3 (by kernel_rfl) ?_
        refine seg wide_wide [.p, .as (.int .i64 (↑k + 1)), .p] [0, 15, 16, 17, 206] [Value.int .i64 (IntKind.i64.wrap (↑k + 1)) = .int .i64 (↑k + 1)] [(0, .pointer (some ⟨F.fb, 0, none⟩)), (15, .slice (some ⟨gr, 0, none⟩) ((walk r.t 0).length) cr), (16, .slice (some ⟨gw, 0, none⟩) lw.length cw), (17, .int .i64 (↑k + 1)), (206, .bool false)] 3 0 hS (by kernel_rfl) (by kernel_rfl) (by kernel_rfl) (.cons (as_i64 (by omega)) .nil) fun a hS => ?_
        refine seg_end ?_
        exact ⟨k + 1, ⟨hS.keepTo [0, 15, 16, 17] (by kernel_rfl), by omega, hG129, hE127⟩, by omega⟩
      · -- decide ((↑k : Int) < (((walk r.t 0).length : Nat) : Int)) is false
        replace hb114 := of_decide_eq_false hb114
        refine wpIn_exit ?_
        refine then_exit ?_
        refine then_exit ?_
        refine inBlock_hit ?_
        refine hK110 _ _ ?_
        refine wpIn_seq_k fun K130 hK130 => ?_
        refine region 1 (by kernel_rfl) ?_
        refine seg wide_wide [.p] [0, 15, 16, 17, 4] [] [(0, .pointer (some ⟨F.fb, 0, none⟩)), (15, .slice (some ⟨gr, 0, none⟩) ((walk r.t 0).length) cr), (16, .slice (some ⟨gw, 0, none⟩) lw.length cw), (17, .int .i64 ↑k), (4, .bool true)] 1 0 hS (by kernel_rfl) (by kernel_rfl) (by kernel_rfl) .nil fun a hS => ?_
        refine seg_end ?_
        refine hK130 _ _ ?_
        refine wpIn_ret ?_
        refine ret1 hS Try.results35 rfl ?_
        exact ⟨rfl, hEy⟩

end Go.Proofs.Ytpglmeeledmkoaa
