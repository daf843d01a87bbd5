import Derived.Test.YtpglmeeledmkoaaProg
import Derived.Test.YtpglmeeledmkoaaVc
import Derived.Test.YtpglmeeledmkoaaT26
namespace Go.Proofs.Ytpglmeeledmkoaa
open Go.Vc

theorem NLeaf_any {b : Nat} {st : Option Addr} {num kd nn lk ls ll lr wd lf tt : Int} {ks : Value} {fl : Bool} {w : World} (hN : Blk w b 106 #[.pointer st, .int .i64 num, .int .i64 kd, .int .i64 nn, .int .i64 lk, .int .i64 ls, .int .i64 ll, .int .i64 lr, ks, .int .i64 wd, .int .i64 lf, .int .i64 tt, .bool fl]) :
    Calls Try.prog 62 #[.pointer (some ⟨b, 0, none⟩)] w fun e w' => e = .returned (.tuple #[.agg #[.int .i64 lk, .int .i64 ls, .int .i64 ll, .int .i64 lr], .bool ((kd : Int) == 1)]) ∧ Ext [] w w' := by
  refine calls_body 13 [(0, .pointer (some ⟨b, 0, none⟩))] Try.func62 rfl (by kernel_rfl) (by kernel_rfl) (by kernel_rfl) fun a hS => ?_
  have hE0 : Ext [] w w := Ext.refl _ _
  refine wpIn_seq_k fun K1 hK1 => ?_
  refine region 2 (by kernel_rfl) ?_
  refine eff_box wide_wide (r := 1) (cs := #[.int .i64 0, .int .i64 0, .int .i64 0, .int .i64 0]) (T := 38) (d := (some 2)) hS (by kernel_rfl) fun a w2 hw3 hS => ?_
  have hn4 : b ≠ w.heap.size := Nat.ne_of_lt hN.lt
  have hB5 := Blk.at' hw3 (hN.alloc _)
  have hB6 : Blk w2 (w.heap.size) 38 #[.int .i64 0, .int .i64 0, .int .i64 0, .int .i64 0] := by rw [hw3]; exact Blk.new _ _ _
  have hs7 : w.heap.size ≤ w.heap.size := hE0.size
  have hE8 : Ext [] w w2 := by rw [hw3]; exact hE0.alloc _
  refine seg wide_wide [.p] [0, 2, 3] [] [(0, .pointer (some ⟨b, 0, none⟩)), (2, .pointer (some ⟨w.heap.size, 0, none⟩)), (3, .bool false)] 2 0 hS (by kernel_rfl) (by kernel_rfl) (by kernel_rfl) .nil fun a hS => ?_
  refine seg_end ?_
  refine hK1 _ _ ?_
  refine wpIn_seq_k fun K9 hK9 => ?_
  refine region_fn2 wide_wide [.q .p, .q .p, .q .p, .q (.lds [.int .i64 lk, .int .i64 ls, .int .i64 ll, .int .i64 lr]), .q .p, .q .p, .q .p, .q (.ld (.int .i64 kd)), .q .p, .e, .q .p] [0, 0, 0, 0, 0, 0, 0, 0, 0, 0, 1] [0, 0, 0, 0, 1, 1, 1, 1, 1, 0, 1] [0, 1, 3, 7, 0, 16, 48, 112, 240, 15, 1023] [9] 1 ([(0, .pointer (some ⟨b, 0, none⟩)), (2, .pointer (some ⟨w.heap.size, 0, none⟩)), (3, .bool ((kd : Int) == 1)), (4, .pointer (some ⟨b, 0, none⟩)), (5, .pointer (some ⟨b, 0, none⟩)), (6, .pointer (some ⟨b, 4, none⟩)), (7, .agg #[.int .i64 lk, .int .i64 ls, .int .i64 ll, .int .i64 lr]), (8, .pointer (some ⟨b, 0, none⟩)), (9, .pointer (some ⟨b, 0, none⟩)), (10, .pointer (some ⟨b, 2, none⟩)), (11, .int .i64 kd), (12, .bool ((kd : Int) == 1))]) [w2.drew, upd (w2.drew) (w.heap.size) 38 #[.int .i64 lk, .int .i64 ls, .int .i64 ll, .int .i64 lr]] w2.drew (fun w' => [(3, [w'.cell? ⟨b, 4, none⟩ = some (.int .i64 lk), w'.cell? ⟨b, 5, none⟩ = some (.int .i64 ls), w'.cell? ⟨b, 6, none⟩ = some (.int .i64 ll), w'.cell? ⟨b, 7, none⟩ = some (.int .i64 lr)]), (7, [w'.cell? ⟨b, 2, none⟩ = some (.int .i64 kd)])]) [0, 2] [] hS (by kernel_rfl) (by kernel_rfl) (by kernel_rfl) (by kernel_rfl) (fun _ => by kernel_rfl) (by kernel_rfl) (by kernel_rfl) (by kernel_rfl) ?_ ?_ ?_
  · intro e w' hw
    refine (.cons ?_ (.cons ?_ .nil))
    · intro h1 h2
      obtain rfl : e = 0 := Nat.le_antisymm h2 h1
      obtain rfl : w' = w2.drew := hw.trans (by kernel_rfl)
      exact (.cons ((hB5.drew : Blk w2.drew b 106 (#[.pointer st, .int .i64 num, .int .i64 kd, .int .i64 nn, .int .i64 lk, .int .i64 ls, .int .i64 ll, .int .i64 lr, ks, .int .i64 wd, .int .i64 lf, .int .i64 tt, .bool fl])).cell 4 rfl) (.cons ((hB5.drew : Blk w2.drew b 106 (#[.pointer st, .int .i64 num, .int .i64 kd, .int .i64 nn, .int .i64 lk, .int .i64 ls, .int .i64 ll, .int .i64 lr, ks, .int .i64 wd, .int .i64 lf, .int .i64 tt, .bool fl])).cell 5 rfl) (.cons ((hB5.drew : Blk w2.drew b 106 (#[.pointer st, .int .i64 num, .int .i64 kd, .int .i64 nn, .int .i64 lk, .int .i64 ls, .int .i64 ll, .int .i64 lr, ks, .int .i64 wd, .int .i64 lf, .int .i64 tt, .bool fl])).cell 6 rfl) (.cons ((hB5.drew : Blk w2.drew b 106 (#[.pointer st, .int .i64 num, .int .i64 kd, .int .i64 nn, .int .i64 lk, .int .i64 ls, .int .i64 ll, .int .i64 lr, ks, .int .i64 wd, .int .i64 lf, .int .i64 tt, .bool fl])).cell 7 rfl) .nil))))
    · intro h1 h2
      replace h1 : 0 ≤ e := h1
      replace h2 : e ≤ 1 := h2
      have he : e = 0 ∨ e = 1 := by omega
      rcases he with rfl | rfl
      · obtain rfl : w' = w2.drew := hw.trans (by kernel_rfl)
        exact (.cons ((hB5.drew : Blk w2.drew b 106 (#[.pointer st, .int .i64 num, .int .i64 kd, .int .i64 nn, .int .i64 lk, .int .i64 ls, .int .i64 ll, .int .i64 lr, ks, .int .i64 wd, .int .i64 lf, .int .i64 tt, .bool fl])).cell 2 rfl) .nil)
      · obtain rfl : w' = upd (w2.drew) (w.heap.size) 38 #[.int .i64 lk, .int .i64 ls, .int .i64 ll, .int .i64 lr] := hw.trans (by kernel_rfl)
        exact (.cons (((hB5.drew).updNe (Ne.symm hn4) _ _ : Blk (upd (w2.drew) (w.heap.size) 38 #[.int .i64 lk, .int .i64 ls, .int .i64 ll, .int .i64 lr]) b 106 (#[.pointer st, .int .i64 num, .int .i64 kd, .int .i64 nn, .int .i64 lk, .int .i64 ls, .int .i64 ll, .int .i64 lr, ks, .int .i64 wd, .int .i64 lf, .int .i64 tt, .bool fl])).cell 2 rfl) .nil)
  · refine (.cons ?eq10_9 .nil)
    · refine eff_at (w2.drew) (upd (w2.drew) (w.heap.size) 38 #[.int .i64 lk, .int .i64 ls, .int .i64 ll, .int .i64 lr]) (by kernel_rfl) (by kernel_rfl) ?_
      exact upon_store (b := w.heap.size) (off := 0) (vs := [.int .i64 lk, .int .i64 ls, .int .i64 ll, .int .i64 lr]) (by kernel_rfl) (hB6.drew : Blk w2.drew w.heap.size 38 (#[.int .i64 0, .int .i64 0, .int .i64 0, .int .i64 0])) (by simp) ⟨by kernel_rfl, by kernel_rfl⟩
  rintro a w11 hS hw12
  replace hw12 : w11 = upd (w2.drew) (w.heap.size) 38 #[.int .i64 lk, .int .i64 ls, .int .i64 ll, .int .i64 lr] := hw12.trans (by kernel_rfl)
  have hB13 := Blk.at' hw12 ((hB5.drew).updNe (Ne.symm hn4) _ _)
  have hB14 : Blk w11 w.heap.size 38 (#[.int .i64 lk, .int .i64 ls, .int .i64 ll, .int .i64 lr]) := by rw [hw12]; exact (hB6.drew).upd _ _
  have hE15 : Ext [] w w11 := by rw [hw12]; exact (hE8.drew).updIn (.inr hs7) _ _
  replace hS := hS.keepTo [0, 2, 3] (m' := [(0, .pointer (some ⟨b, 0, none⟩)), (2, .pointer (some ⟨w.heap.size, 0, none⟩)), (3, .bool ((kd : Int) == 1))]) (by kernel_rfl)
  refine hK9 _ _ ?_
  refine wpIn_ret ?_
  refine retA2 hS Try.results62 (by kernel_rfl) (by kernel_rfl) rfl rfl hB14 ?_
  exact ⟨rfl, hE15⟩

theorem Count_any {sb : Nat} {t : Tr} {w : World} (ht : t.Ok w sb) :
    Calls Try.prog 32 #[.pointer (some ⟨t.b, 0, none⟩)] w fun e w' => e = .returned (.int .i64 (t.kids.length : Int)) ∧ w' = w := by
  have hta := ht.arr
  have hN : Blk w t.b 106 #[.pointer (some ⟨sb, 0, none⟩), .int .i64 t.num, .int .i64 t.kd, .int .i64 t.nn, .int .i64 t.lk, .int .i64 t.ls, .int .i64 t.ll, .int .i64 t.lr, t.ks, .int .i64 t.wd, .int .i64 t.lf, .int .i64 t.tt, .bool t.fl] := ht.blk
  refine calls_body 8 [(0, .pointer (some ⟨t.b, 0, none⟩))] Try.func32 rfl (by kernel_rfl) (by kernel_rfl) (by kernel_rfl) fun a hS => ?_
  refine wpIn_seq_k fun K1 hK1 => ?_
  refine region 1 (by kernel_rfl) ?_
  refine seg wide_wide [.p] [0, 2] [] [(0, .pointer (some ⟨t.b, 0, none⟩)), (2, .int .i64 0)] 1 0 hS (by kernel_rfl) (by kernel_rfl) (by kernel_rfl) .nil fun a hS => ?_
  refine seg_end ?_
  refine hK1 _ _ ?_
  refine wpIn_seq_k fun K2 hK2 => ?_
  refine region 6 (by kernel_rfl) ?_
  refine seg wide_wide [.p, .p, .p, .ld (t.ks), .run (.int .i64 ↑t.kids.length), .p] [0, 2] [w.cell? ⟨t.b, 8, none⟩ = some (t.ks), Sem.run Try.prog (vS (Builtin.len_ #[32] 3 #[t.ks])) w = .ok (.value (.int .i64 ↑t.kids.length)) w] [(0, .pointer (some ⟨t.b, 0, none⟩)), (2, .int .i64 ↑t.kids.length)] 6 0 hS (by kernel_rfl) (by kernel_rfl) (by kernel_rfl) (.cons (hN.cell 8 rfl) (.cons (run_len_own hta (by kernel_rfl)) .nil)) fun a hS => ?_
  refine seg_end ?_
  refine hK2 _ _ ?_
  refine wpIn_ret ?_
  refine ret1 hS Try.results32 rfl ?_
  exact ⟨rfl, rfl⟩

theorem Kid_lt {sb : Nat} {t : Tr} {i : Int} {w : World} (ht : t.Ok w sb) (hi : i < 0) :
    Calls Try.prog 64 #[.pointer (some ⟨t.b, 0, none⟩), .int .i64 i] w fun e w' => e = .returned (.tuple #[.pointer none, .bool false]) ∧ w' = w := by
  have hta := ht.arr
  have hN : Blk w t.b 106 #[.pointer (some ⟨sb, 0, none⟩), .int .i64 t.num, .int .i64 t.kd, .int .i64 t.nn, .int .i64 t.lk, .int .i64 t.ls, .int .i64 t.ll, .int .i64 t.lr, t.ks, .int .i64 t.wd, .int .i64 t.lf, .int .i64 t.tt, .bool t.fl] := ht.blk
  refine calls_body 24 [(0, .pointer (some ⟨t.b, 0, none⟩)), (1, .int .i64 i)] Try.func64 rfl (by kernel_rfl) (by kernel_rfl) (by kernel_rfl) fun a hS => ?_
  refine wpIn_seq_k fun K1 hK1 => ?_
  refine region 2 (by kernel_rfl) ?_
  refine seg wide_wide [.p, .p] [0, 1, 4, 5] [] [(0, .pointer (some ⟨t.b, 0, none⟩)), (1, .int .i64 i), (4, .pointer none), (5, .bool false)] 2 0 hS (by kernel_rfl) (by kernel_rfl) (by kernel_rfl) .nil fun a hS => ?_
  refine seg_end ?_
  refine hK1 _ _ ?_
  refine wpIn_seq_k fun K2 hK2 => ?_
  refine wpIn_seq_k fun K3 hK3 => ?_
  refine region 11 (by kernel_rfl) ?_
  refine seg wide_wide [.p, .as (.bool true), .p, .no, .no, .no, .no, .no, .no, .no, .p] [0, 1, 4, 5, 16] [Value.bool (decide ((i : Int) < 0)) = .bool true] [(0, .pointer (some ⟨t.b, 0, none⟩)), (1, .int .i64 i), (4, .pointer none), (5, .bool false), (16, .bool true)] 11 0 hS (by kernel_rfl) (by kernel_rfl) (by kernel_rfl) (.cons (as_t (by omega)) .nil) fun a hS => ?_
  refine seg_end ?_
  refine hK3 _ _ ?_
  refine cond_t hS rfl ?_
  refine wpIn_seq_k fun K4 hK4 => ?_
  refine region 2 (by kernel_rfl) ?_
  refine seg wide_wide [.p, .p] [0, 1, 4, 5, 16] [] [(0, .pointer (some ⟨t.b, 0, none⟩)), (1, .int .i64 i), (4, .pointer none), (5, .bool false), (16, .bool true)] 2 0 hS (by kernel_rfl) (by kernel_rfl) (by kernel_rfl) .nil fun a hS => ?_
  refine seg_end ?_
  refine hK4 _ _ ?_
  refine wpIn_ret ?_
  refine then_ret ?_
  refine ret2 hS Try.results64 rfl rfl ?_
  exact ⟨rfl, rfl⟩

theorem Kid_ge {sb : Nat} {t : Tr} {i : Int} {w : World} (ht : t.Ok w sb) (hi : 0 ≤ i ∧ (t.kids.length : Int) ≤ i) :
    Calls Try.prog 64 #[.pointer (some ⟨t.b, 0, none⟩), .int .i64 i] w fun e w' => e = .returned (.tuple #[.pointer none, .bool false]) ∧ w' = w := by
  have hta := ht.arr
  have hN : Blk w t.b 106 #[.pointer (some ⟨sb, 0, none⟩), .int .i64 t.num, .int .i64 t.kd, .int .i64 t.nn, .int .i64 t.lk, .int .i64 t.ls, .int .i64 t.ll, .int .i64 t.lr, t.ks, .int .i64 t.wd, .int .i64 t.lf, .int .i64 t.tt, .bool t.fl] := ht.blk
  refine calls_body 24 [(0, .pointer (some ⟨t.b, 0, none⟩)), (1, .int .i64 i)] Try.func64 rfl (by kernel_rfl) (by kernel_rfl) (by kernel_rfl) fun a hS => ?_
  refine wpIn_seq_k fun K1 hK1 => ?_
  refine region 2 (by kernel_rfl) ?_
  refine seg wide_wide [.p, .p] [0, 1, 4, 5] [] [(0, .pointer (some ⟨t.b, 0, none⟩)), (1, .int .i64 i), (4, .pointer none), (5, .bool false)] 2 0 hS (by kernel_rfl) (by kernel_rfl) (by kernel_rfl) .nil fun a hS => ?_
  refine seg_end ?_
  refine hK1 _ _ ?_
  refine wpIn_seq_k fun K2 hK2 => ?_
  refine wpIn_seq_k fun K3 hK3 => ?_
  refine region 11 (by kernel_rfl) ?_
  refine seg wide_wide [.p, .as (.bool false), .p, .p, .p, .p, .p, .ld (t.ks), .run (.int .i64 ↑t.kids.length), .as (.bool true), .p] [0, 1, 4, 5, 16] [Value.bool (decide ((i : Int) < 0)) = .bool false, w.cell? ⟨t.b, 8, none⟩ = some (t.ks), Sem.run Try.prog (vS (Builtin.len_ #[32] 3 #[t.ks])) w = .ok (.value (.int .i64 ↑t.kids.length)) w, Value.bool (decide ((i : Int) ≥ ↑t.kids.length)) = .bool true] [(0, .pointer (some ⟨t.b, 0, none⟩)), (1, .int .i64 i), (4, .pointer none), (5, .bool false), (16, .bool true)] 11 0 hS (by kernel_rfl) (by kernel_rfl) (by kernel_rfl) (.cons (as_f (by omega)) (.cons (hN.cell 8 rfl) (.cons (run_len_own hta (by kernel_rfl)) (.cons (as_t (by omega)) .nil)))) fun a hS => ?_
  refine seg_end ?_
  refine hK3 _ _ ?_
  refine cond_t hS rfl ?_
  refine wpIn_seq_k fun K4 hK4 => ?_
  refine region 2 (by kernel_rfl) ?_
  refine seg wide_wide [.p, .p] [0, 1, 4, 5, 16] [] [(0, .pointer (some ⟨t.b, 0, none⟩)), (1, .int .i64 i), (4, .pointer none), (5, .bool false), (16, .bool true)] 2 0 hS (by kernel_rfl) (by kernel_rfl) (by kernel_rfl) .nil fun a hS => ?_
  refine seg_end ?_
  refine hK4 _ _ ?_
  refine wpIn_ret ?_
  refine then_ret ?_
  refine ret2 hS Try.results64 rfl rfl ?_
  exact ⟨rfl, rfl⟩

theorem Kid_in {sb : Nat} {t : Tr} {j : Nat} {kid : Tr} {w : World} (ht : t.Ok w sb) (hj : t.kids[j]? = some kid) (hb : t.kids.length ≤ 1000000000) :
    Calls Try.prog 64 #[.pointer (some ⟨t.b, 0, none⟩), .int .i64 ↑j] w fun e w' => e = .returned (.tuple #[.pointer (some ⟨kid.b, 0, none⟩), .bool true]) ∧ w' = w := by
  have hta := ht.arr
  have hN : Blk w t.b 106 #[.pointer (some ⟨sb, 0, none⟩), .int .i64 t.num, .int .i64 t.kd, .int .i64 t.nn, .int .i64 t.lk, .int .i64 t.ls, .int .i64 t.ll, .int .i64 t.lr, t.ks, .int .i64 t.wd, .int .i64 t.lf, .int .i64 t.tt, .bool t.fl] := ht.blk
  have hjl : j < t.kids.length := (List.getElem?_eq_some_iff.1 hj).1
  refine calls_body 24 [(0, .pointer (some ⟨t.b, 0, none⟩)), (1, .int .i64 ↑j)] Try.func64 rfl (by kernel_rfl) (by kernel_rfl) (by kernel_rfl) fun a hS => ?_
  refine wpIn_seq_k fun K1 hK1 => ?_
  refine region 2 (by kernel_rfl) ?_
  refine seg wide_wide [.p, .p] [0, 1, 4, 5] [] [(0, .pointer (some ⟨t.b, 0, none⟩)), (1, .int .i64 ↑j), (4, .pointer none), (5, .bool false)] 2 0 hS (by kernel_rfl) (by kernel_rfl) (by kernel_rfl) .nil fun a hS => ?_
  refine seg_end ?_
  refine hK1 _ _ ?_
  refine wpIn_seq_k fun K2 hK2 => ?_
  refine wpIn_seq_k fun K3 hK3 => ?_
  refine region 11 (by kernel_rfl) ?_
  refine seg wide_wide [.p, .as (.bool false), .p, .p, .p, .p, .p, .ld (t.ks), .run (.int .i64 ↑t.kids.length), .as (.bool false), .p] [0, 1, 4, 5, 16] [Value.bool (decide ((↑j : Int) < 0)) = .bool false, w.cell? ⟨t.b, 8, none⟩ = some (t.ks), Sem.run Try.prog (vS (Builtin.len_ #[32] 3 #[t.ks])) w = .ok (.value (.int .i64 ↑t.kids.length)) w, Value.bool (decide ((↑j : Int) ≥ ↑t.kids.length)) = .bool false] [(0, .pointer (some ⟨t.b, 0, none⟩)), (1, .int .i64 ↑j), (4, .pointer none), (5, .bool false), (16, .bool false)] 11 0 hS (by kernel_rfl) (by kernel_rfl) (by kernel_rfl) (.cons (as_f (by omega)) (.cons (hN.cell 8 rfl) (.cons (run_len_own hta (by kernel_rfl)) (.cons (as_f (by omega)) .nil)))) fun a hS => ?_
  refine seg_end ?_
  refine hK3 _ _ ?_
  refine cond_f hS rfl ?_
  refine wpIn_skip ?_
  refine hK2 _ _ ?_
  refine wpIn_seq_k fun K4 hK4 => ?_
  refine region 9 (by kernel_rfl) ?_
  refine seg wide_wide [.p, .p, .p, .ld (t.ks), .p, .run (.pointer (some ⟨bof t.ks, 0 + j * 1, none⟩)), .ld (.pointer (some ⟨kid.b, 0, none⟩)), .p, .p] [0, 1, 4, 5, 16] [w.cell? ⟨t.b, 8, none⟩ = some (t.ks), Sem.run Try.prog (vS (Instr.indexAt 32 (t.ks) (.int .i64 ↑j))) w = .ok (.value (.pointer (some ⟨bof t.ks, 0 + j * 1, none⟩))) w, w.cell? ⟨bof t.ks, 0 + j * 1, none⟩ = some (.pointer (some ⟨kid.b, 0, none⟩))] [(0, .pointer (some ⟨t.b, 0, none⟩)), (1, .int .i64 ↑j), (4, .pointer (some ⟨kid.b, 0, none⟩)), (5, .bool true), (16, .bool false)] 9 0 hS (by kernel_rfl) (by kernel_rfl) (by kernel_rfl) (.cons (hN.cell 8 rfl) (.cons (ix_own (j := j) hta (by kernel_rfl) (by kernel_rfl) rfl hjl) (.cons (hta.cellAt _ (by simp [hj, Tr.ptr])) .nil))) fun a hS => ?_
  refine seg_end ?_
  refine hK4 _ _ ?_
  refine wpIn_ret ?_
  refine ret2 hS Try.results64 rfl rfl ?_
  exact ⟨rfl, rfl⟩

theorem RRow_any {r : Rf} {w : World} (hB : Blk w r.rb 40 #[.int .i64 r.k, .int .i64 ↑r.i, .int .i64 r.t.kd, .int .i64 r.t.nn, .int .i64 r.t.lk, .int .i64 r.t.ls, .int .i64 r.t.ll, .int .i64 r.t.lr, r.kv, .int .i64 r.t.tt]) (hrow : OwnV w 29 1 r.kv r.kids.length (r.kids.map Rf.ptr)) :
    Calls Try.prog 69 #[.pointer (some ⟨r.rb, 0, none⟩)] w fun e w' => e = .returned (.agg #[.int .i64 r.t.kd, .int .i64 r.t.nn, .int .i64 r.t.ls, .int .i64 r.t.ll, .int .i64 (r.kids.length : Int), .int .i64 (r.i : Int)]) ∧ Ext [] w w' := by
  refine calls_body 31 [(0, .pointer (some ⟨r.rb, 0, none⟩))] Try.func69 rfl (by kernel_rfl) (by kernel_rfl) (by kernel_rfl) fun a hS => ?_
  have hE0 : Ext [] w w := Ext.refl _ _
  refine wpIn_seq_k fun K1 hK1 => ?_
  refine region 1 (by kernel_rfl) ?_
  refine eff_box wide_wide (r := 0) (cs := #[.int .i64 0, .int .i64 0, .int .i64 0, .int .i64 0, .int .i64 0, .int .i64 0]) (T := 64) (d := (some 2)) hS (by kernel_rfl) fun a w2 hw3 hS => ?_
  have hn4 : r.rb ≠ w.heap.size := Nat.ne_of_lt hB.lt
  have hB5 := Blk.at' hw3 (hB.alloc _)
  have hB6 : Blk w2 (w.heap.size) 64 #[.int .i64 0, .int .i64 0, .int .i64 0, .int .i64 0, .int .i64 0, .int .i64 0] := by rw [hw3]; exact Blk.new _ _ _
  have hs7 : w.heap.size ≤ w.heap.size := hE0.size
  have hE8 : Ext [] w w2 := by rw [hw3]; exact hE0.alloc _
  refine seg_end ?_
  refine hK1 _ _ ?_
  refine wpIn_seq_k fun K9 hK9 => ?_
  refine region_fn2 wide_wide [.q .p, .q .p, .q .p, .q (.ld (.int .i64 r.t.kd)), .q .p, .q .p, .q .p, .q (.ld (.int .i64 r.t.nn)), .q .p, .q .p, .q .p, .q .p, .q (.ld (.int .i64 r.t.ls)), .q .p, .q .p, .q .p, .q .p, .q (.ld (.int .i64 r.t.ll)), .q .p, .q .p, .q .p, .q (.ld (r.kv)), .q (.run (.int .i64 ↑r.kids.length)), .q .p, .q .p, .q .p, .q (.ld (.int .i64 ↑r.i)), .q .p, .e] [0, 0, 0, 0, 0, 0, 0, 0, 0, 0, 0, 0, 0, 0, 0, 0, 0, 0, 0, 0, 0, 0, 0, 0, 0, 0, 0, 0, 0] [0, 0, 0, 0, 0, 0, 0, 0, 0, 0, 0, 0, 0, 0, 0, 0, 0, 0, 0, 0, 0, 0, 0, 0, 0, 0, 0, 0, 0] [0, 1, 3, 7, 0, 16, 48, 112, 0, 256, 768, 1792, 3840, 0, 8192, 24576, 57344, 122880, 0, 262144, 786432, 1835008, 3932160, 0, 8388608, 25165824, 58720256, 134217727, 268435455] [28] 1 ([(0, .pointer (some ⟨r.rb, 0, none⟩)), (2, .pointer (some ⟨w.heap.size, 0, none⟩)), (3, .pointer (some ⟨r.rb, 0, none⟩)), (4, .pointer (some ⟨r.rb, 0, none⟩)), (5, .pointer (some ⟨r.rb, 2, none⟩)), (6, .int .i64 r.t.kd), (7, .pointer (some ⟨r.rb, 0, none⟩)), (8, .pointer (some ⟨r.rb, 0, none⟩)), (9, .pointer (some ⟨r.rb, 3, none⟩)), (10, .int .i64 r.t.nn), (11, .pointer (some ⟨r.rb, 0, none⟩)), (12, .pointer (some ⟨r.rb, 0, none⟩)), (13, .pointer (some ⟨r.rb, 4, none⟩)), (14, .pointer (some ⟨r.rb, 5, none⟩)), (15, .int .i64 r.t.ls), (16, .pointer (some ⟨r.rb, 0, none⟩)), (17, .pointer (some ⟨r.rb, 0, none⟩)), (18, .pointer (some ⟨r.rb, 4, none⟩)), (19, .pointer (some ⟨r.rb, 6, none⟩)), (20, .int .i64 r.t.ll), (21, .pointer (some ⟨r.rb, 0, none⟩)), (22, .pointer (some ⟨r.rb, 0, none⟩)), (23, .pointer (some ⟨r.rb, 8, none⟩)), (24, r.kv), (25, .int .i64 ↑r.kids.length), (26, .pointer (some ⟨r.rb, 0, none⟩)), (27, .pointer (some ⟨r.rb, 0, none⟩)), (28, .pointer (some ⟨r.rb, 1, none⟩)), (29, .int .i64 ↑r.i), (30, .agg #[.int .i64 r.t.kd, .int .i64 r.t.nn, .int .i64 r.t.ls, .int .i64 r.t.ll, .int .i64 ↑r.kids.length, .int .i64 ↑r.i])]) [w2.drew, upd (w2.drew) (w.heap.size) 64 #[.int .i64 r.t.kd, .int .i64 r.t.nn, .int .i64 r.t.ls, .int .i64 r.t.ll, .int .i64 ↑r.kids.length, .int .i64 ↑r.i]] w2.drew (fun w' => [(3, [w'.cell? ⟨r.rb, 2, none⟩ = some (.int .i64 r.t.kd)]), (7, [w'.cell? ⟨r.rb, 3, none⟩ = some (.int .i64 r.t.nn)]), (12, [w'.cell? ⟨r.rb, 5, none⟩ = some (.int .i64 r.t.ls)]), (17, [w'.cell? ⟨r.rb, 6, none⟩ = some (.int .i64 r.t.ll)]), (21, [w'.cell? ⟨r.rb, 8, none⟩ = some (r.kv)]), (22, [Sem.run Try.prog (vS (Builtin.len_ #[33] 3 #[r.kv])) w' = .ok (.value (.int .i64 ↑r.kids.length)) w']), (26, [w'.cell? ⟨r.rb, 1, none⟩ = some (.int .i64 ↑r.i)])]) [0, 2] [] hS (by kernel_rfl) (by kernel_rfl) (by kernel_rfl) (by kernel_rfl) (fun _ => by kernel_rfl) (by kernel_rfl) (by kernel_rfl) (by kernel_rfl) ?_ ?_ ?_
  · intro e w' hw
    refine (.cons ?_ (.cons ?_ (.cons ?_ (.cons ?_ (.cons ?_ (.cons ?_ (.cons ?_ .nil)))))))
    · intro h1 h2
      obtain rfl : e = 0 := Nat.le_antisymm h2 h1
      obtain rfl : w' = w2.drew := hw.trans (by kernel_rfl)
      exact (.cons ((hB5.drew : Blk w2.drew r.rb 40 (#[.int .i64 r.k, .int .i64 ↑r.i, .int .i64 r.t.kd, .int .i64 r.t.nn, .int .i64 r.t.lk, .int .i64 r.t.ls, .int .i64 r.t.ll, .int .i64 r.t.lr, r.kv, .int .i64 r.t.tt])).cell 2 rfl) .nil)
    · intro h1 h2
      obtain rfl : e = 0 := Nat.le_antisymm h2 h1
      obtain rfl : w' = w2.drew := hw.trans (by kernel_rfl)
      exact (.cons ((hB5.drew : Blk w2.drew r.rb 40 (#[.int .i64 r.k, .int .i64 ↑r.i, .int .i64 r.t.kd, .int .i64 r.t.nn, .int .i64 r.t.lk, .int .i64 r.t.ls, .int .i64 r.t.ll, .int .i64 r.t.lr, r.kv, .int .i64 r.t.tt])).cell 3 rfl) .nil)
    · intro h1 h2
      obtain rfl : e = 0 := Nat.le_antisymm h2 h1
      obtain rfl : w' = w2.drew := hw.trans (by kernel_rfl)
      exact (.cons ((hB5.drew : Blk w2.drew r.rb 40 (#[.int .i64 r.k, .int .i64 ↑r.i, .int .i64 r.t.kd, .int .i64 r.t.nn, .int .i64 r.t.lk, .int .i64 r.t.ls, .int .i64 r.t.ll, .int .i64 r.t.lr, r.kv, .int .i64 r.t.tt])).cell 5 rfl) .nil)
    · intro h1 h2
      obtain rfl : e = 0 := Nat.le_antisymm h2 h1
      obtain rfl : w' = w2.drew := hw.trans (by kernel_rfl)
      exact (.cons ((hB5.drew : Blk w2.drew r.rb 40 (#[.int .i64 r.k, .int .i64 ↑r.i, .int .i64 r.t.kd, .int .i64 r.t.nn, .int .i64 r.t.lk, .int .i64 r.t.ls, .int .i64 r.t.ll, .int .i64 r.t.lr, r.kv, .int .i64 r.t.tt])).cell 6 rfl) .nil)
    · intro h1 h2
      obtain rfl : e = 0 := Nat.le_antisymm h2 h1
      obtain rfl : w' = w2.drew := hw.trans (by kernel_rfl)
      exact (.cons ((hB5.drew : Blk w2.drew r.rb 40 (#[.int .i64 r.k, .int .i64 ↑r.i, .int .i64 r.t.kd, .int .i64 r.t.nn, .int .i64 r.t.lk, .int .i64 r.t.ls, .int .i64 r.t.ll, .int .i64 r.t.lr, r.kv, .int .i64 r.t.tt])).cell 8 rfl) .nil)
    · exact fun _ _ => (.cons (run_len_own hrow (by kernel_rfl)) .nil)
    · intro h1 h2
      obtain rfl : e = 0 := Nat.le_antisymm h2 h1
      obtain rfl : w' = w2.drew := hw.trans (by kernel_rfl)
      exact (.cons ((hB5.drew : Blk w2.drew r.rb 40 (#[.int .i64 r.k, .int .i64 ↑r.i, .int .i64 r.t.kd, .int .i64 r.t.nn, .int .i64 r.t.lk, .int .i64 r.t.ls, .int .i64 r.t.ll, .int .i64 r.t.lr, r.kv, .int .i64 r.t.tt])).cell 1 rfl) .nil)
  · refine (.cons ?eq10_28 .nil)
    · refine eff_at (w2.drew) (upd (w2.drew) (w.heap.size) 64 #[.int .i64 r.t.kd, .int .i64 r.t.nn, .int .i64 r.t.ls, .int .i64 r.t.ll, .int .i64 ↑r.kids.length, .int .i64 ↑r.i]) (by kernel_rfl) (by kernel_rfl) ?_
      exact upon_store (b := w.heap.size) (off := 0) (vs := [.int .i64 r.t.kd, .int .i64 r.t.nn, .int .i64 r.t.ls, .int .i64 r.t.ll, .int .i64 ↑r.kids.length, .int .i64 ↑r.i]) (by kernel_rfl) (hB6.drew : Blk w2.drew w.heap.size 64 (#[.int .i64 0, .int .i64 0, .int .i64 0, .int .i64 0, .int .i64 0, .int .i64 0])) (by simp) ⟨by kernel_rfl, by kernel_rfl⟩
  rintro a w11 hS hw12
  replace hw12 : w11 = upd (w2.drew) (w.heap.size) 64 #[.int .i64 r.t.kd, .int .i64 r.t.nn, .int .i64 r.t.ls, .int .i64 r.t.ll, .int .i64 ↑r.kids.length, .int .i64 ↑r.i] := hw12.trans (by kernel_rfl)
  have hB13 := Blk.at' hw12 ((hB5.drew).updNe (Ne.symm hn4) _ _)
  have hB14 : Blk w11 w.heap.size 64 (#[.int .i64 r.t.kd, .int .i64 r.t.nn, .int .i64 r.t.ls, .int .i64 r.t.ll, .int .i64 ↑r.kids.length, .int .i64 ↑r.i]) := by rw [hw12]; exact (hB6.drew).upd _ _
  have hE15 : Ext [] w w11 := by rw [hw12]; exact (hE8.drew).updIn (.inr hs7) _ _
  replace hS := hS.keepTo [0, 2] (m' := [(0, .pointer (some ⟨r.rb, 0, none⟩)), (2, .pointer (some ⟨w.heap.size, 0, none⟩))]) (by kernel_rfl)
  refine hK9 _ _ ?_
  refine wpIn_ret ?_
  refine retA1 hS Try.results69 (by kernel_rfl) (by kernel_rfl) rfl hB14 ?_
  exact ⟨rfl, hE15⟩

set_option maxHeartbeats 1000000 in
theorem SameRow_yes {N m : Nat} {w : World} {F : Fo} (hF : FI N m w F) {q : Rf} {c0 c1 c2 c3 n : Int} (hq : q ∈ F.L) :
    Calls Try.prog 68 #[.pointer (some ⟨F.fb, 0, none⟩), .agg #[.int .i64 c0, .int .i64 c1, .int .i64 c2, .int .i64 c3, .int .i64 n, .int .i64 q.t.num], .agg #[.int .i64 c0, .int .i64 c1, .int .i64 c2, .int .i64 c3, .int .i64 n, .int .i64 ↑q.i]] w fun e w' => e = .returned (.bool true) ∧ Ext [] w w' := by
  have hqT : Blk w q.t.b 106 #[.pointer (some ⟨(sOf F.s0 F.s1 q.k), 0, none⟩), .int .i64 q.t.num, .int .i64 q.t.kd, .int .i64 q.t.nn, .int .i64 q.t.lk, .int .i64 q.t.ls, .int .i64 q.t.ll, .int .i64 q.t.lr, q.t.ks, .int .i64 q.t.wd, .int .i64 q.t.lf, .int .i64 q.t.tt, .bool q.t.fl] := (hF.ok.one q hq).ok.blk
  have hqi := (hF.ok.one q hq).ki
  have hqL := hF.ok.at hq
  refine calls_body 20 [(0, .pointer (some ⟨F.fb, 0, none⟩)), (1, .agg #[.int .i64 c0, .int .i64 c1, .int .i64 c2, .int .i64 c3, .int .i64 n, .int .i64 q.t.num]), (2, .agg #[.int .i64 c0, .int .i64 c1, .int .i64 c2, .int .i64 c3, .int .i64 n, .int .i64 ↑q.i])] Try.func68 rfl (by kernel_rfl) (by kernel_rfl) (by kernel_rfl) fun a hS => ?_
  have hE0 : Ext [] w w := Ext.refl _ _
  refine wpIn_seq_k fun K1 hK1 => ?_
  refine region 3 (by kernel_rfl) ?_
  refine eff_box wide_wide (r := 2) (cs := #[.int .i64 c0, .int .i64 c1, .int .i64 c2, .int .i64 c3, .int .i64 n, .int .i64 q.t.num]) (T := 64) (d := (some 4)) hS (by kernel_rfl) fun a w2 hw3 hS => ?_
  have hn4 : F.fb ≠ w.heap.size := Nat.ne_of_lt hF.f.lt
  have hn5 : ∀ x ∈ ob (.slice F.pb F.L.length F.pc), w.heap.size ≠ x := fun x hx => Nat.ne_of_gt (hF.P.lie x hx)
  have hn6 : ∀ x ∈ ob (.slice F.qb F.L.length F.qc), w.heap.size ≠ x := fun x hx => Nat.ne_of_gt (hF.R.lie x hx)
  have hn7 : q.t.b ≠ w.heap.size := Nat.ne_of_lt hqT.lt
  have hB8 := Blk.at' hw3 (hF.f.alloc _)
  have hB9 := OwnV.at' hw3 (hF.P.alloc _)
  have hB10 := OwnV.at' hw3 (hF.R.alloc _)
  have hB11 := Blk.at' hw3 (hqT.alloc _)
  have hB12 : Blk w2 (w.heap.size) 64 #[.int .i64 c0, .int .i64 c1, .int .i64 c2, .int .i64 c3, .int .i64 n, .int .i64 q.t.num] := by rw [hw3]; exact Blk.new _ _ _
  have hs13 : w.heap.size ≤ w.heap.size := hE0.size
  have hE14 : Ext [] w w2 := by rw [hw3]; exact hE0.alloc _
  refine eff_box wide_wide (r := 1) (cs := #[.int .i64 c0, .int .i64 c1, .int .i64 c2, .int .i64 c3, .int .i64 n, .int .i64 ↑q.i]) (T := 64) (d := (some 5)) hS (by kernel_rfl) fun a w15 hw16 hS => ?_
  have hn17 : F.fb ≠ w2.heap.size := Nat.ne_of_lt hB8.lt
  have hn18 : ∀ x ∈ ob (.slice F.pb F.L.length F.pc), w2.heap.size ≠ x := fun x hx => Nat.ne_of_gt (hB9.lie x hx)
  have hn19 : ∀ x ∈ ob (.slice F.qb F.L.length F.qc), w2.heap.size ≠ x := fun x hx => Nat.ne_of_gt (hB10.lie x hx)
  have hn20 : q.t.b ≠ w2.heap.size := Nat.ne_of_lt hB11.lt
  have hn21 : w.heap.size ≠ w2.heap.size := Nat.ne_of_lt hB12.lt
  have hB22 := Blk.at' hw16 (hB8.alloc _)
  have hB23 := OwnV.at' hw16 (hB9.alloc _)
  have hB24 := OwnV.at' hw16 (hB10.alloc _)
  have hB25 := Blk.at' hw16 (hB11.alloc _)
  have hB26 := Blk.at' hw16 (hB12.alloc _)
  have hB27 : Blk w15 (w2.heap.size) 64 #[.int .i64 c0, .int .i64 c1, .int .i64 c2, .int .i64 c3, .int .i64 n, .int .i64 ↑q.i] := by rw [hw16]; exact Blk.new _ _ _
  have hs28 : w.heap.size ≤ w2.heap.size := hE14.size
  have hE29 : Ext [] w w15 := by rw [hw16]; exact hE14.alloc _
  refine seg wide_wide [.p] [0, 1, 2, 4, 5, 6] [] [(0, .pointer (some ⟨F.fb, 0, none⟩)), (1, .agg #[.int .i64 c0, .int .i64 c1, .int .i64 c2, .int .i64 c3, .int .i64 n, .int .i64 q.t.num]), (2, .agg #[.int .i64 c0, .int .i64 c1, .int .i64 c2, .int .i64 c3, .int .i64 n, .int .i64 ↑q.i]), (4, .pointer (some ⟨w.heap.size, 0, none⟩)), (5, .pointer (some ⟨w2.heap.size, 0, none⟩)), (6, .bool false)] 3 0 hS (by kernel_rfl) (by kernel_rfl) (by kernel_rfl) .nil fun a hS => ?_
  refine seg_end ?_
  refine hK1 _ _ ?_
  refine wpIn_seq_k fun K30 hK30 => ?_
  refine region_fn2 wide_wide [.q .p, .q .p, .q .p, .q (.ld (.slice F.pb F.L.length F.pc)), .q .p, .q (.ld (.int .i64 ↑q.i)), .q (.run (.pointer (some ⟨bof (.slice F.pb F.L.length F.pc), 0 + q.i * 1, none⟩))), .q (.ld (.pointer (some ⟨q.t.b, 0, none⟩))), .e, .q .p, .e] [0, 0, 0, 0, 0, 0, 0, 0, 0, 1, 1] [0, 0, 0, 0, 0, 0, 0, 0, 0, 1, 1] [0, 1, 3, 7, 0, 16, 63, 127, 255, 511, 1023] [8, 10] 2 ([(0, .pointer (some ⟨F.fb, 0, none⟩)), (1, .agg #[.int .i64 c0, .int .i64 c1, .int .i64 c2, .int .i64 c3, .int .i64 n, .int .i64 q.t.num]), (2, .agg #[.int .i64 c0, .int .i64 c1, .int .i64 c2, .int .i64 c3, .int .i64 n, .int .i64 ↑q.i]), (4, .pointer (some ⟨w.heap.size, 0, none⟩)), (5, .pointer (some ⟨w2.heap.size, 0, none⟩)), (6, .bool false), (7, .pointer (some ⟨F.fb, 0, none⟩)), (8, .pointer (some ⟨F.fb, 0, none⟩)), (9, .pointer (some ⟨F.fb, 2, none⟩)), (10, .slice F.pb F.L.length F.pc), (11, .pointer (some ⟨w2.heap.size, 5, none⟩)), (12, .int .i64 ↑q.i), (13, .pointer (some ⟨bof (.slice F.pb F.L.length F.pc), 0 + q.i * 1, none⟩)), (14, .pointer (some ⟨q.t.b, 0, none⟩)), (15, .int .i64 q.t.num), (16, .pointer (some ⟨w2.heap.size, 5, none⟩))]) [w15.drew, w15.drew, upd (w15.drew) (w2.heap.size) 64 #[.int .i64 c0, .int .i64 c1, .int .i64 c2, .int .i64 c3, .int .i64 n, .int .i64 q.t.num]] w15.drew (fun w' => [(3, [w'.cell? ⟨F.fb, 2, none⟩ = some (.slice F.pb F.L.length F.pc)]), (5, [w'.cell? ⟨w2.heap.size, 5, none⟩ = some (.int .i64 ↑q.i)]), (6, [Sem.run Try.prog (vS (Instr.indexAt 32 (.slice F.pb F.L.length F.pc) (.int .i64 ↑q.i))) w' = .ok (.value (.pointer (some ⟨bof (.slice F.pb F.L.length F.pc), 0 + q.i * 1, none⟩))) w']), (7, [w'.cell? ⟨bof (.slice F.pb F.L.length F.pc), 0 + q.i * 1, none⟩ = some (.pointer (some ⟨q.t.b, 0, none⟩))])]) [0, 1, 2, 4, 5, 6] [] hS (by kernel_rfl) (by kernel_rfl) (by kernel_rfl) (by kernel_rfl) (fun _ => by kernel_rfl) (by kernel_rfl) (by kernel_rfl) (by kernel_rfl) ?_ ?_ ?_
  · intro e w' hw
    refine (.cons ?_ (.cons ?_ (.cons ?_ (.cons ?_ .nil))))
    · intro h1 h2
      obtain rfl : e = 0 := Nat.le_antisymm h2 h1
      obtain rfl : w' = w15.drew := hw.trans (by kernel_rfl)
      exact (.cons ((hB22.drew : Blk w15.drew F.fb 35 (#[.pointer (some ⟨F.s0, 0, none⟩), .pointer (some ⟨F.s1, 0, none⟩), .slice F.pb F.L.length F.pc, .slice F.qb F.L.length F.qc, .slice F.bb F.bn F.bc])).cell 2 rfl) .nil)
    · intro h1 h2
      obtain rfl : e = 0 := Nat.le_antisymm h2 h1
      obtain rfl : w' = w15.drew := hw.trans (by kernel_rfl)
      exact (.cons ((hB27.drew : Blk w15.drew w2.heap.size 64 (#[.int .i64 c0, .int .i64 c1, .int .i64 c2, .int .i64 c3, .int .i64 n, .int .i64 ↑q.i])).cell 5 rfl) .nil)
    · exact fun _ _ => (.cons (ix_own (j := q.i) (hB23) (by kernel_rfl) (by kernel_rfl) rfl hqi) .nil)
    · intro h1 h2
      obtain rfl : e = 0 := Nat.le_antisymm h2 h1
      obtain rfl : w' = w15.drew := hw.trans (by kernel_rfl)
      exact (.cons ((hB23.drew : OwnV w15.drew 47 1 (.slice F.pb F.L.length F.pc) F.L.length (F.L.map fun r => r.t.ptr)).cellAt _ (by simp [hqL, Tr.ptr])) .nil)
  · refine (.cons ?eq31_8 (.cons ?eq31_10 .nil))
    · refine eff_at (w15.drew) (w15.drew) (by kernel_rfl) (by kernel_rfl) ?_
      refine upon_call (f := 31) (vs := [.pointer (some ⟨q.t.b, 0, none⟩)]) (cap := #[]) (d := (some 15)) (by kernel_rfl) Try.call31 #[.pointer (some ⟨q.t.b, 0, none⟩)] (by kernel_rfl) (Number_any (hB25.drew : Blk w15.drew q.t.b 106 (#[.pointer (some ⟨(sOf F.s0 F.s1 q.k), 0, none⟩), .int .i64 q.t.num, .int .i64 q.t.kd, .int .i64 q.t.nn, .int .i64 q.t.lk, .int .i64 q.t.ls, .int .i64 q.t.ll, .int .i64 q.t.lr, q.t.ks, .int .i64 q.t.wd, .int .i64 q.t.lf, .int .i64 q.t.tt, .bool q.t.fl]))) ?_
      rintro _ _ ⟨rfl, rfl⟩
      exact ⟨_, rfl, ⟨by kernel_rfl, by kernel_rfl⟩⟩
    · refine eff_at (w15.drew) (upd (w15.drew) (w2.heap.size) 64 #[.int .i64 c0, .int .i64 c1, .int .i64 c2, .int .i64 c3, .int .i64 n, .int .i64 q.t.num]) (by kernel_rfl) (by kernel_rfl) ?_
      exact upon_store (b := w2.heap.size) (off := 5) (vs := [.int .i64 q.t.num]) (by kernel_rfl) (hB27.drew : Blk w15.drew w2.heap.size 64 (#[.int .i64 c0, .int .i64 c1, .int .i64 c2, .int .i64 c3, .int .i64 n, .int .i64 ↑q.i])) (by simp) ⟨by kernel_rfl, by kernel_rfl⟩
  rintro a w32 hS hw33
  replace hw33 : w32 = upd (w15.drew) (w2.heap.size) 64 #[.int .i64 c0, .int .i64 c1, .int .i64 c2, .int .i64 c3, .int .i64 n, .int .i64 q.t.num] := hw33.trans (by kernel_rfl)
  have hB34 := Blk.at' hw33 ((hB22.drew).updNe (Ne.symm hn17) _ _)
  have hB35 := OwnV.at' hw33 ((hB23.drew).updNe hn18 _ _)
  have hB36 := OwnV.at' hw33 ((hB24.drew).updNe hn19 _ _)
  have hB37 := Blk.at' hw33 ((hB25.drew).updNe (Ne.symm hn20) _ _)
  have hB38 := Blk.at' hw33 ((hB26.drew).updNe (Ne.symm hn21) _ _)
  have hB39 : Blk w32 w2.heap.size 64 (#[.int .i64 c0, .int .i64 c1, .int .i64 c2, .int .i64 c3, .int .i64 n, .int .i64 q.t.num]) := by rw [hw33]; exact (hB27.drew).upd _ _
  have hE40 : Ext [] w w32 := by rw [hw33]; exact (hE29.drew).updIn (.inr hs28) _ _
  replace hS := hS.keepTo [0, 1, 2, 4, 5, 6] (m' := [(0, .pointer (some ⟨F.fb, 0, none⟩)), (1, .agg #[.int .i64 c0, .int .i64 c1, .int .i64 c2, .int .i64 c3, .int .i64 n, .int .i64 q.t.num]), (2, .agg #[.int .i64 c0, .int .i64 c1, .int .i64 c2, .int .i64 c3, .int .i64 n, .int .i64 ↑q.i]), (4, .pointer (some ⟨w.heap.size, 0, none⟩)), (5, .pointer (some ⟨w2.heap.size, 0, none⟩)), (6, .bool false)]) (by kernel_rfl)
  refine hK30 _ _ ?_
  refine wpIn_seq_k fun K41 hK41 => ?_
  refine region 4 (by kernel_rfl) ?_
  refine seg wide_wide [.lds [.int .i64 c0, .int .i64 c1, .int .i64 c2, .int .i64 c3, .int .i64 n, .int .i64 q.t.num], .lds [.int .i64 c0, .int .i64 c1, .int .i64 c2, .int .i64 c3, .int .i64 n, .int .i64 q.t.num], .run (.bool true), .p] [0, 1, 2, 4, 5, 6] [w32.cell? ⟨w.heap.size, 0, none⟩ = some (.int .i64 c0), w32.cell? ⟨w.heap.size, 1, none⟩ = some (.int .i64 c1), w32.cell? ⟨w.heap.size, 2, none⟩ = some (.int .i64 c2), w32.cell? ⟨w.heap.size, 3, none⟩ = some (.int .i64 c3), w32.cell? ⟨w.heap.size, 4, none⟩ = some (.int .i64 n), w32.cell? ⟨w.heap.size, 5, none⟩ = some (.int .i64 q.t.num), w32.cell? ⟨w2.heap.size, 0, none⟩ = some (.int .i64 c0), w32.cell? ⟨w2.heap.size, 1, none⟩ = some (.int .i64 c1), w32.cell? ⟨w2.heap.size, 2, none⟩ = some (.int .i64 c2), w32.cell? ⟨w2.heap.size, 3, none⟩ = some (.int .i64 c3), w32.cell? ⟨w2.heap.size, 4, none⟩ = some (.int .i64 n), w32.cell? ⟨w2.heap.size, 5, none⟩ = some (.int .i64 q.t.num), Sem.run Try.prog (vS (do eqGuard .eql 64 (.tmp 17) (.tmp 18) (.agg #[.int .i64 c0, .int .i64 c1, .int .i64 c2, .int .i64 c3, .int .i64 n, .int .i64 q.t.num]) (.agg #[.int .i64 c0, .int .i64 c1, .int .i64 c2, .int .i64 c3, .int .i64 n, .int .i64 q.t.num]); binOp .eql 64 (.agg #[.int .i64 c0, .int .i64 c1, .int .i64 c2, .int .i64 c3, .int .i64 n, .int .i64 q.t.num]) (.agg #[.int .i64 c0, .int .i64 c1, .int .i64 c2, .int .i64 c3, .int .i64 n, .int .i64 q.t.num]))) w32 = .ok (.value (.bool true)) w32] [(0, .pointer (some ⟨F.fb, 0, none⟩)), (1, .agg #[.int .i64 c0, .int .i64 c1, .int .i64 c2, .int .i64 c3, .int .i64 n, .int .i64 q.t.num]), (2, .agg #[.int .i64 c0, .int .i64 c1, .int .i64 c2, .int .i64 c3, .int .i64 n, .int .i64 ↑q.i]), (4, .pointer (some ⟨w.heap.size, 0, none⟩)), (5, .pointer (some ⟨w2.heap.size, 0, none⟩)), (6, .bool true)] 4 0 hS (by kernel_rfl) (by kernel_rfl) (by kernel_rfl) (.cons (hB38.cell 0 rfl) (.cons (hB38.cell 1 rfl) (.cons (hB38.cell 2 rfl) (.cons (hB38.cell 3 rfl) (.cons (hB38.cell 4 rfl) (.cons (hB38.cell 5 rfl) (.cons (hB39.cell 0 rfl) (.cons (hB39.cell 1 rfl) (.cons (hB39.cell 2 rfl) (.cons (hB39.cell 3 rfl) (.cons (hB39.cell 4 rfl) (.cons (hB39.cell 5 rfl) (.cons ((bin_agg_self (by kernel_rfl) (by kernel_rfl)).1) .nil))))))))))))) fun a hS => ?_
  refine seg_end ?_
  refine hK41 _ _ ?_
  refine wpIn_ret ?_
  refine ret1 hS Try.results68 rfl ?_
  exact ⟨rfl, hE40⟩

theorem Last_any {N m : Nat} {w : World} {F : Fo} (hF : FI N m w F) (hm : m ≤ 1000000000000000) :
    Calls Try.prog 13 #[.pointer (some ⟨F.fb, 0, none⟩)] w fun e w' => w' = w ∧ ((∃ i r, e = .returned (.int .i64 (i : Nat)) ∧ F.L[i]? = some r ∧ r.t.tt ≤ 4000) ∨ e = .returned (.int .i64 (-1))) := by
  have hcb := hF.cb
  refine calls_body 26 [(0, .pointer (some ⟨F.fb, 0, none⟩))] Try.func13 rfl (by kernel_rfl) (by kernel_rfl) (by kernel_rfl) fun a hS => ?_
  refine wpIn_seq_k fun K1 hK1 => ?_
  refine region 1 (by kernel_rfl) ?_
  refine seg wide_wide [.p] [0, 2] [] [(0, .pointer (some ⟨F.fb, 0, none⟩)), (2, .int .i64 0)] 1 0 hS (by kernel_rfl) (by kernel_rfl) (by kernel_rfl) .nil fun a hS => ?_
  refine seg_end ?_
  refine hK1 _ _ ?_
  refine wpIn_seq_k fun K2 hK2 => ?_
  refine wpIn_seq_k fun K3 hK3 => ?_
  refine region 7 (by kernel_rfl) ?_
  refine seg wide_wide [.p, .p, .p, .ld (.slice F.qb F.L.length F.qc), .p, .as (.int .i64 (↑F.L.length - 1)), .p] [0, 2, 3] [w.cell? ⟨F.fb, 3, none⟩ = some (.slice F.qb F.L.length F.qc), Value.int .i64 (IntKind.i64.wrap (↑F.L.length - 1)) = .int .i64 (↑F.L.length - 1)] [(0, .pointer (some ⟨F.fb, 0, none⟩)), (2, .int .i64 0), (3, .int .i64 (↑F.L.length - 1))] 7 0 hS (by kernel_rfl) (by kernel_rfl) (by kernel_rfl) (.cons ((hF.f).cell 3 rfl) (.cons (as_i64 (by omega)) .nil)) fun a hS => ?_
  refine seg_end ?_
  refine hK3 _ _ ?_
  refine wpIn_block ?_
  refine loop_ghost (fun (j : Int) a' w' => St 26 [] [(0, .pointer (some ⟨F.fb, 0, none⟩)), (3, .int .i64 j)] a' ∧ w' = w ∧ -1 ≤ j ∧ j < F.L.length) (fun (j : Int) => (j + 1).toNat) ((F.L.length : Int) - 1) ⟨hS.keepTo [0, 3] (by kernel_rfl), rfl, by omega, by omega⟩ ?_
  rintro j a w2 ⟨hS, hw2, hj1, hj2⟩
  rw [hw2]
  refine wpIn_seq_k fun K4 hK4 => ?_
  refine wpIn_seq_k fun K5 hK5 => ?_
  refine region 2 (by kernel_rfl) ?_
  refine seg wide_wide [.p, .p] [0, 3, 11] [] [(0, .pointer (some ⟨F.fb, 0, none⟩)), (3, .int .i64 j), (11, .bool (decide ((j : Int) ≥ 0)))] 2 0 hS (by kernel_rfl) (by kernel_rfl) (by kernel_rfl) .nil fun a hS => ?_
  refine seg_end ?_
  refine hK5 _ _ ?_
  refine cond_b hS rfl (fun hb6 => ?_) (fun hb6 => ?_)
  · -- decide ((j : Int) ≥ 0) is true
    replace hb6 := of_decide_eq_true hb6
    obtain ⟨i, hi, hil⟩ : ∃ i : Nat, j = i ∧ i < F.L.length := ⟨j.toNat, by omega, by omega⟩
    subst hi
    obtain ⟨r, hr⟩ : ∃ r, F.L[i]? = some r := ⟨_, List.getElem?_eq_getElem hil⟩
    have hr1 := hF.ok.one r (List.mem_of_getElem? hr)
    have hrow := hr1.row
    have hB : Blk w r.rb 40 #[.int .i64 r.k, .int .i64 ↑r.i, .int .i64 r.t.kd, .int .i64 r.t.nn, .int .i64 r.t.lk, .int .i64 r.t.ls, .int .i64 r.t.ll, .int .i64 r.t.lr, r.kv, .int .i64 r.t.tt] := hr1.blk
    refine wpIn_skip ?_
    refine hK4 _ _ ?_
    refine wpIn_seq_k fun K7 hK7 => ?_
    refine wpIn_block ?_
    refine wpIn_seq_k fun K8 hK8 => ?_
    refine region 11 (by kernel_rfl) ?_
    refine seg wide_wide [.p, .p, .p, .ld (.slice F.qb F.L.length F.qc), .p, .run (.pointer (some ⟨bof (.slice F.qb F.L.length F.qc), 0 + i * 1, none⟩)), .ld (.pointer (some ⟨r.rb, 0, none⟩)), .p, .p, .ld (.int .i64 r.t.tt), .p] [0, 3, 24] [w.cell? ⟨F.fb, 3, none⟩ = some (.slice F.qb F.L.length F.qc), Sem.run Try.prog (vS (Instr.indexAt 33 (.slice F.qb F.L.length F.qc) (.int .i64 ↑i))) w = .ok (.value (.pointer (some ⟨bof (.slice F.qb F.L.length F.qc), 0 + i * 1, none⟩))) w, w.cell? ⟨bof (.slice F.qb F.L.length F.qc), 0 + i * 1, none⟩ = some (.pointer (some ⟨r.rb, 0, none⟩)), w.cell? ⟨r.rb, 9, none⟩ = some (.int .i64 r.t.tt)] [(0, .pointer (some ⟨F.fb, 0, none⟩)), (3, .int .i64 ↑i), (24, .bool (decide ((r.t.tt : Int) ≤ 4000)))] 11 0 hS (by kernel_rfl) (by kernel_rfl) (by kernel_rfl) (.cons ((hF.f).cell 3 rfl) (.cons (ix_own (j := i) (hF.R) (by kernel_rfl) (by kernel_rfl) rfl hil) (.cons (hF.R.cellAt _ (by simp [hr, Rf.ptr])) (.cons (hB.cell 9 rfl) .nil)))) fun a hS => ?_
    refine seg_end ?_
    refine hK8 _ _ ?_
    refine cond_b hS rfl (fun hb9 => ?_) (fun hb9 => ?_)
    · -- decide ((r.t.tt : Int) ≤ 4000) is true
      replace hb9 := of_decide_eq_true hb9
      refine wpIn_seq_k fun K10 hK10 => ?_
      refine region 2 (by kernel_rfl) ?_
      refine seg wide_wide [.p, .p] [0, 3, 2] [] [(0, .pointer (some ⟨F.fb, 0, none⟩)), (3, .int .i64 ↑i), (2, .int .i64 ↑i)] 2 0 hS (by kernel_rfl) (by kernel_rfl) (by kernel_rfl) .nil fun a hS => ?_
      refine seg_end ?_
      refine hK10 _ _ ?_
      refine wpIn_ret ?_
      refine inBlock_ret ?_
      refine then_ret ?_
      refine then_ret ?_
      refine inBlock_ret ?_
      refine then_ret ?_
      refine ret1 hS Try.results13 rfl ?_
      exact ⟨rfl, .inl ⟨i, r, rfl, hr, hb9⟩⟩
    · -- decide ((r.t.tt : Int) ≤ 4000) is false
      replace hb9 := of_decide_eq_false hb9
      refine wpIn_skip ?_
      refine inBlock_normal ?_
      refine hK7 _ _ ?_
      refine region 3 (by kernel_rfl) ?_
      refine seg wide_wide [.p, .as (.int .i64 (↑i - 1)), .p] [0, 3] [Value.int .i64 (IntKind.i64.wrap (↑i - 1)) = .int .i64 (↑i - 1)] [(0, .pointer (some ⟨F.fb, 0, none⟩)), (3, .int .i64 (↑i - 1))] 3 0 hS (by kernel_rfl) (by kernel_rfl) (by kernel_rfl) (.cons (as_i64 (by omega)) .nil) fun a hS => ?_
      refine seg_end ?_
      exact ⟨(i : Int) - 1, ⟨hS.keepTo [0, 3] (by kernel_rfl), rfl, by omega, by omega⟩, by omega⟩
  · -- decide ((j : Int) ≥ 0) is false
    replace hb6 := of_decide_eq_false hb6
    refine wpIn_exit ?_
    refine then_exit ?_
    refine then_exit ?_
    refine inBlock_hit ?_
    refine hK2 _ _ ?_
    refine wpIn_seq_k fun K11 hK11 => ?_
    refine region 1 (by kernel_rfl) ?_
    refine seg wide_wide [.p] [0, 3, 2] [] [(0, .pointer (some ⟨F.fb, 0, none⟩)), (3, .int .i64 j), (2, .int .i64 (-1))] 1 0 hS (by kernel_rfl) (by kernel_rfl) (by kernel_rfl) .nil fun a hS => ?_
    refine seg_end ?_
    refine hK11 _ _ ?_
    refine wpIn_ret ?_
    refine ret1 hS Try.results13 rfl ?_
    exact ⟨rfl, .inr rfl⟩

theorem RWalk_any {s0 s1 : Nat} {L : List Rf} {r : Rf} {w : World} (hF : FOk w s0 s1 L) (hr : r ∈ L) :
    Calls Try.prog 14 #[.pointer (some ⟨r.rb, 0, none⟩)] w fun e w' => ∃ (l : List (Sp × Value)) (g cap : Nat), e = .returned (.slice (some ⟨g, 0, none⟩) l.length cap) ∧ l.map (·.1) = rwalk r 0 [] ∧ OwnR w' 43 3 g cap l.length (spc l) ∧ Ext [] w w' ∧ w.heap.size ≤ g ∧ (∀ q ∈ l, OwnV w' 3 1 q.2 q.1.path.length (ints q.1.path) ∧ ∀ b ∈ ob q.2, w.heap.size ≤ b) := by
  have htt := hF.tt hr
  refine calls_body 5 [(0, .pointer (some ⟨r.rb, 0, none⟩))] Try.func14 rfl (by kernel_rfl) (by kernel_rfl) (by kernel_rfl) fun a hS => ?_
  refine wpIn_seq_k fun K1 hK1 => ?_
  refine region 1 (by kernel_rfl) ?_
  refine seg wide_wide [.p] [0, 2] [] [(0, .pointer (some ⟨r.rb, 0, none⟩)), (2, .slice none 0 0)] 1 0 hS (by kernel_rfl) (by kernel_rfl) (by kernel_rfl) .nil fun a hS => ?_
  refine seg_end ?_
  refine hK1 _ _ ?_
  refine wpIn_seq_k fun K2 hK2 => ?_
  refine region 3 (by kernel_rfl) ?_
  refine seg wide_wide [.p] [0, 2, 3] [] [(0, .pointer (some ⟨r.rb, 0, none⟩)), (2, .slice none 0 0), (3, .pointer (some ⟨r.rb, 0, none⟩))] 1 2 hS (by kernel_rfl) (by kernel_rfl) (by kernel_rfl) .nil fun a hS => ?_
  refine eff_call wide_wide (r := 1) (f := 51) (vs := [.slice none 0 0, .pointer (some ⟨r.rb, 0, none⟩), .int .i64 0, .slice none 0 0]) (cap := #[]) (d := (some 4)) hS (by kernel_rfl) Try.call51 #[.slice none 0 0, .pointer (some ⟨r.rb, 0, none⟩), .int .i64 0, .slice none 0 0] (by kernel_rfl) (RWalk_l r hr 0 [] [] none 0 (.slice none 0 0) w hF (OwnV.nil _ _ _) (OwnV.nil _ _ _) (by simp; omega)) ?_
  rintro _ w9 ⟨l, g, cap, rfl, hl, hO, hE, hg, hp⟩
  simp only [List.length_nil, Nat.zero_add, List.nil_append] at hO
  refine ⟨_, rfl, fun a hS => ?_⟩
  simp only [List.length_nil, Nat.zero_add] at hS
  refine seg wide_wide [.p] [0, 2] [] [(0, .pointer (some ⟨r.rb, 0, none⟩)), (2, .slice (some ⟨g, 0, none⟩) l.length cap)] 3 0 hS (by kernel_rfl) (by kernel_rfl) (by kernel_rfl) .nil fun a hS => ?_
  refine seg_end ?_
  refine hK2 _ _ ?_
  refine wpIn_ret ?_
  refine ret1 hS Try.results14 rfl ?_
  exact ⟨l, g, cap, rfl, hl, hO, hE, hg.resolve_left (by simp [oa]), fun q hq => ⟨(hp q hq).1, fun b hb => ((hp q hq).2 b hb).resolve_left (by simp [ob])⟩⟩

end Go.Proofs.Ytpglmeeledmkoaa
